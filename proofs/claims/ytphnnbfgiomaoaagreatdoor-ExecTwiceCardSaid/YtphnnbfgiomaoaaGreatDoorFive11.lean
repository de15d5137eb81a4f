/-
  Lemmas (part 11) for: the statement.
-/
import Derived.Test.YtphnnbfgiomaoaaGreatDoorFive3
import Derived.Test.YtphnnbfgiomaoaaGreatDoorFive4
import Derived.Test.YtphnnbfgiomaoaaGreatDoorFive10
set_option linter.all false
namespace Go.V
open Go.N Go.Proofs
def aCl (n:Int):ByteArray:=if n<0 then aAo++aAx n.natAbs else aAx n.natAbs
theorem aG2 (s:ByteArray):(aAo++s).toList=45::s.toList:=by
 rw [ByteArray.toList_eq,ByteArray.toList_eq];simp [ByteArray.data_append]
theorem bE6 (n:Nat):aHf (aAx n) aAo=false:=by
 rw [aCx,decide_eq_false_iff_not,aAu]
 intro e
 have h1:=List.all_eq_true.1 (aH8 n) 45 (List.mem_of_getElem? e)
 simp [aCe] at h1
theorem aHp (n:Int):aHf (aCl n) aAo=decide (n<0):=by
 unfold aCl
 split
 · rename_i h
   rw [aCx,aG2,decide_eq_true h];rfl
 · rename_i h
   rw [bE6,decide_eq_false h]
theorem bEd (s:ByteArray):aCp (aAo++s) aAo=s:=by
 have h:aHf (aAo++s) aAo=true:=by rw [aCx,aG2];rfl
 rw [aCp,if_pos h]
 refine aBl ?_
 rw [ByteArray.toList_eq,ByteArray.toList_eq,ByteArray.data_extract,Array.toList_extract,ByteArray.size_append]
 simp only [ByteArray.data_append,show aAo.size=1 from rfl,Array.toList_append,Nat.add_comm 1,Nat.add_sub_cancel]
 show List.take s.size s.data.toList=_
 exact List.take_length
theorem aEh (n:Int):aCp (aCl n) aAo=aAx n.natAbs:=by
 unfold aCl
 split
 · exact bEd _
 · rw [aCp,bE6,if_neg (by simp)]
theorem aYv (n:Int):aGm (aCl n)=n.natAbs:=by rw [aGm,aEh,aF7]
theorem aG0 (n:Int):aBq (aCl n)=true:=by
 rw [aBq,aEh,aAu,aI9,Bool.true_and,Bool.not_eq_true',decide_eq_false_iff_not]
 intro h
 have h1:=(aKe (aCl n)).2 h
 rw [aHp,aEh,aB8,aDu,decide_eq_true_eq] at h1
 omega
theorem bWz {s:ByteArray}(h:aBq s=true):∃n:Int,s=aCl n:=by
 have L:=bAd (n:=1) h
 cases hm:aHf s aAo
 · refine ⟨(aGm s:Nat),?_⟩
   rw [aCl,if_neg (by omega),Int.natAbs_natCast]
   have:=L.tr
   rwa [aCp,hm,if_neg (by simp)] at this
 · refine ⟨-(aGm s:Nat),?_⟩
   have h0:=L.neg hm
   rw [aCl,if_pos (by omega),Int.natAbs_neg,Int.natAbs_natCast,<-L.tr]
   refine aBl ?_
   rw [aG2,aCp,if_pos hm]
   have h1:=hm
   rw [aCx,decide_eq_true_eq] at h1
   rw [ByteArray.toList_eq] at h1 ⊢
   rw [ByteArray.toList_eq,ByteArray.data_extract,Array.toList_extract]
   have hs:s.size=s.data.toList.length:=rfl
   rw [hs]
   revert h1
   generalize s.data.toList=l
   intro h1
   cases l with
   |nil=>simp at h1
   |cons c l=>simp at h1;subst h1;simp [show aAo.size=1 from rfl]
theorem bFj {a b:Int}:aCl a=aCl b↔a=b:=by
 refine ⟨λh=>?_,λh=>h ▸ rfl⟩
 have h1:=aHp a
 have h2:=aEh a
 rw [h,aHp] at h1
 rw [h,aEh,aDu] at h2
 have:(b<0)↔(a<0):=by simpa using h1
 omega
theorem aFb (n:Int):(aCl n).size<=(dec n.natAbs).length+1:=by
 unfold aCl
 split
 · rw [ByteArray.size_append,aAq,show aAo.size=1 from rfl];omega
 · rw [aAq];omega
theorem aEp (n:Nat):aCl (n:Int)=aAx n:=by rw [aCl,if_neg (by omega),Int.natAbs_natCast]
theorem aL5 (n:Int){d:Nat}(hd:d≠0):aL4 (aCl n) d=aCl (mkRat n d).num:=by
 have hg0:0<Nat.gcd n.natAbs d:=Nat.gcd_pos_of_pos_right _ (by omega)
 rw [aL4,aYv,aHp,Rat.num_mkRat,if_neg hd,Nat.gcd_comm d]
 have hdv:((Nat.gcd n.natAbs d:Nat):Int) ∣ n:=Int.ofNat_dvd_left.2 (Nat.gcd_dvd_left _ _)
 obtain ⟨k,hk⟩:=hdv
 generalize Nat.gcd n.natAbs d=g at hg0 hk ⊢
 have hq:n / (g:Int)=k:=by rw [hk];exact Int.mul_ediv_cancel_left _ (by omega)
 have hn:n.natAbs / g=k.natAbs:=by rw [hk,Int.natAbs_mul,Int.natAbs_natCast];exact Nat.mul_div_cancel_left _ hg0
 rw [hq,hn,aCl]
 have hs:n<0↔k<0:=by
  rw [hk]
  constructor
  · intro h
    rcases (by omega:k<0\/0<=k) with h2|h2
    · exact h2
    · have:=Int.mul_nonneg (show (0:Int)<=g by omega) h2;omega
  · intro h;exact Int.mul_neg_of_pos_of_neg (by omega) h
 by_cases h:n<0
 · rw [if_pos (by simpa using h),if_pos (hs.1 h)]
 · rw [if_neg (by simpa using h),if_neg (λe=>h (hs.2 e))]
theorem aL7 (n:Int){d:Nat}(hd:d≠0):aL6 (aCl n) d=aAx (mkRat n d).den:=by
 rw [aL6,aYv,Rat.den_mkRat,if_neg hd,Nat.gcd_comm d]
def aAw (x:Rat):ByteArray:=aIg (aCl x.num) (aAx x.den)
theorem aZ0 {c:UInt8}:∀{l:List UInt8},c ∉ l->aOo c l=none
 |[],_=>rfl
 |x::l,h=>by
  simp only [List.mem_cons,not_or] at h
  simp only [aOo]
  rw [if_neg (λe=>h.1 e.symm),aZ0 h.2];rfl
theorem bFm {c:UInt8}:∀{l r:List UInt8},c ∉ l->aOo c (l++c::r)=some l.length
 |[],r,_=>by simp [aOo]
 |x::l,r,h=>by
  simp only [List.mem_cons,not_or] at h
  simp only [aOo,List.cons_append]
  rw [if_neg (λe=>h.1 e.symm),bFm h.2];rfl
theorem aQa (n:Nat):(47:UInt8) ∉ dec n:=λh=>by
 have h1:=List.all_eq_true.1 (aH8 n) 47 h
 simp [aCe] at h1
theorem aNu (n:Int):(47:UInt8) ∉ (aCl n).toList:=by
 unfold aCl
 split
 · rw [aG2,aAu];simp only [List.mem_cons,not_or];exact ⟨by decide,aQa _⟩
 · rw [aAu];exact aQa _
theorem aP9 (x:Rat):aGo (aAw x)=if x.den=1 then (aCl x.num,⟨#[]⟩,false) else (aCl x.num,aAx x.den,true):=by
 unfold aAw aIg
 by_cases h:x.den=1
 · rw [h,if_pos aG4.symm,if_pos rfl,aGo,aZ0 (aNu _)]
 · rw [if_neg (λe=>h (aDu.1 (e.trans aG4))),if_neg h,aGo]
   have e:(aCl x.num++aGj++aAx x.den).toList=(aCl x.num).toList++47::(aAx x.den).toList:=by
    rw [ByteArray.toList_eq,ByteArray.toList_eq,ByteArray.toList_eq];simp [ByteArray.data_append]
   rw [e,bFm (aNu _)]
   simp [aL8]
theorem aE2 (x:Rat):aBa (aAw x)=true/\aL4 (aGo (aAw x)).1 (aGn (aAw x))=aCl x.num/\aL6 (aGo (aAw x)).1 (aGn (aAw x))=aAx x.den:=by
 have hq:bD7 (aAw x)=aAx x.den:=by
  rw [bD7,aP9]
  by_cases h:x.den=1
  · rw [if_pos h,h];exact aG4
  · rw [if_neg h,if_pos rfl]
 have hn:aGn (aAw x)=x.den:=by rw [aGn,hq,aF7]
 have h1:(aGo (aAw x)).1=aCl x.num:=by rw [aP9];split<;>rfl
 have hp:=aL5 x.num x.den_nz
 have hq2:=aL7 x.num x.den_nz
 rw [Rat.mkRat_self] at hp hq2
 rw [h1,hn]
 refine ⟨?_,hp,hq2⟩
 rw [aBa,aBu,h1,hn,hp,hq2,aG0,hq,aAu,aI9,aP9]
 have h0:aAx x.den≠⟨#[48]⟩:=λe=>x.den_nz (aDu.1 (e.trans aB8))
 rw [decide_eq_false h0]
 by_cases h:x.den=1
 · rw [if_pos h];simp [aAw]
 · rw [if_neg h,decide_eq_false (λe=>h (aDu.1 (e.trans aG4)))];simp [aAw]
theorem bXm {s:ByteArray}(h:aBa s=true):∃x,s=aAw x:=by
 simp only [aBa,aBu,Bool.and_eq_true,decide_eq_true_eq,Bool.not_eq_true',decide_eq_false_iff_not] at h
 obtain ⟨⟨⟨⟨h1,h2⟩,h3⟩,_⟩,h4⟩:=h
 obtain ⟨n,hn⟩:=bWz h1
 have hd:aGn s≠0:=λe=>h3 (by
  have:=bF0 h2
  rw [this,show aC8 (bD7 s).toList=0 from e,aB8])
 rw [hn,aL5 n hd,aL7 n hd] at h4
 exact ⟨mkRat n (aGn s),h4.symm⟩
theorem aW7 {x y:Rat}:aAw x=aAw y↔x=y:=by
 refine ⟨λh=>?_,λh=>h ▸ rfl⟩
 have h1:=aE2 x
 have h2:=aE2 y
 rw [h] at h1
 exact Rat.ext (bFj.1 (h1.2.1.symm.trans h2.2.1)) (aDu.1 (h1.2.2.symm.trans h2.2.2))
def ht (x:Rat):Nat:=max x.num.natAbs x.den
theorem bT6 (x:Rat):0<ht x:=by have:=x.den_pos;unfold ht;omega
theorem bFh (n:Int){d:Nat}(hd:d≠0):ht (mkRat n d)<=max n.natAbs d:=by
 unfold ht
 rw [Rat.num_mkRat,Rat.den_mkRat,if_neg hd,if_neg hd]
 have h1:d / d.gcd n.natAbs<=d:=Nat.div_le_self _ _
 have h2:(n / (d.gcd n.natAbs:Nat)).natAbs<=n.natAbs:=by
  rw [Int.natAbs_ediv_of_dvd (Int.ofNat_dvd_left.2 (Nat.gcd_dvd_right _ _)),Int.natAbs_natCast];exact Nat.div_le_self _ _
 omega
theorem bIk {x:Rat}{B:Nat}:ht x<=B↔x.num.natAbs<=B/\x.den<=B:=by unfold ht;omega
theorem bT4 (x y:Rat):ht (x+y)<=2*(ht x*ht y):=by
 rw [Rat.add_def']
 refine Nat.le_trans (bFh _ (Nat.mul_ne_zero x.den_nz y.den_nz)) ?_
 obtain ⟨h1,h2⟩:=bIk.1 (Nat.le_refl (ht x))
 obtain ⟨h3,h4⟩:=bIk.1 (Nat.le_refl (ht y))
 have e1:(x.num*(y.den:Int)).natAbs<=ht x*ht y:=by rw [Int.natAbs_mul,Int.natAbs_natCast];exact Nat.mul_le_mul h1 h4
 have e2:(y.num*(x.den:Int)).natAbs<=ht x*ht y:=by rw [Int.natAbs_mul,Int.natAbs_natCast,Nat.mul_comm];exact Nat.mul_le_mul h2 h3
 have e3:x.den*y.den<=ht x*ht y:=Nat.mul_le_mul h2 h4
 omega
theorem bT5 (x:Rat):ht (-x)=ht x:=by unfold ht;rw [Rat.neg_num,Rat.neg_den,Int.natAbs_neg]
theorem cAb (x y:Rat):ht (x - y)<=2*(ht x*ht y):=by rw [Rat.sub_eq_add_neg,<-bT5 y];exact bT4 _ _
theorem cAa (x y:Rat):ht (x*y)<=ht x*ht y:=by
 rw [Rat.mul_def']
 refine Nat.le_trans (bFh _ (Nat.mul_ne_zero x.den_nz y.den_nz)) ?_
 obtain ⟨h1,h2⟩:=bIk.1 (Nat.le_refl (ht x))
 obtain ⟨h3,h4⟩:=bIk.1 (Nat.le_refl (ht y))
 have e1:(x.num*y.num).natAbs<=ht x*ht y:=by rw [Int.natAbs_mul];exact Nat.mul_le_mul h1 h3
 have e3:x.den*y.den<=ht x*ht y:=Nat.mul_le_mul h2 h4
 omega
end Go.V
namespace Go.V
open Go.N Go.Proofs
def MM (x:Rat):Nat:=2*ht x
theorem bJw (x:Rat):2<=MM x:=by have:=bT6 x;unfold MM;omega
theorem aO4:MM 0=2:=rfl
theorem bJv:MM 1=2:=rfl
theorem bJr (x y:Rat):MM (x+y)<=MM x*MM y:=by
 have:=bT4 x y
 unfold MM
 rw [show 2*ht x*(2*ht y)=2*(2*(ht x*ht y)) by rw [Nat.mul_assoc,Nat.mul_left_comm (ht x)]]
 omega
theorem bTn (x y:Rat):MM (x - y)<=MM x*MM y:=by
 have:=cAb x y
 unfold MM
 rw [show 2*ht x*(2*ht y)=2*(2*(ht x*ht y)) by rw [Nat.mul_assoc,Nat.mul_left_comm (ht x)]]
 omega
theorem bJu (x:Rat):MM (-x)=MM x:=by unfold MM;rw [bT5]
theorem aXy (x y:Rat):MM (x*y)<=MM x*MM y:=by
 have:=cAa x y
 unfold MM
 rw [show 2*ht x*(2*ht y)=2*(2*(ht x*ht y)) by rw [Nat.mul_assoc,Nat.mul_left_comm (ht x)]]
 omega
def aEf (l:List Rat):Rat:=l.foldl (· + ·) 0
theorem aEr:aEf []=0:=rfl
theorem bOu (l:List Rat) (x:Rat):aEf (l++[x])=aEf l+x:=by simp [aEf]
theorem aDt {l:List Rat}{k:Nat}(h:k<l.length):aEf (l.take (k+1))=aEf (l.take k)+l[k]:=by rw [List.take_succ_eq_append_getElem h,bOu]
theorem bTo {A:Nat}{l:List Rat}(h:∀x∈l,MM x<=A) (h2:2<=A):∀k,k<=l.length->0<k->MM (aEf (l.take k))<=A ^ k
 |0,_,h0=>absurd h0 (Nat.lt_irrefl _)
 |1,h1,_=>by
  rw [aDt (k:=0) (by omega),List.take_zero,aEr,Rat.zero_add,Nat.pow_one]
  exact h _ (List.getElem_mem _)
 |k+2,h1,_=>by
  rw [aDt (k:=k+1) (by omega),Nat.pow_succ]
  exact Nat.le_trans (bJr _ _) (Nat.mul_le_mul (bTo h h2 (k+1) (by omega) (by omega)) (h _ (List.getElem_mem _)))
theorem aMr {A C:Nat}{l:List Rat}(h:∀x∈l,MM x<=A) (hC:A ^ l.length<=C) (h2:2<=C) (k:Nat) (hk:k<=l.length):MM (aEf (l.take k))<=C:=by
 rcases k with _|k
 · rw [List.take_zero,aEr,aO4];exact h2
 · have hA:2<=A:=Nat.le_trans (bJw _) (h _ (List.getElem_mem (by omega:k<l.length)))
   exact Nat.le_trans (bTo h hA _ hk (by omega)) (Nat.le_trans (Nat.pow_le_pow_right (by omega) hk) hC)
theorem bTm {A:Nat}{x:Rat}(h:MM x<=A):∀k,0<k->MM (x ^ k)<=A ^ k
 |0,h0=>absurd h0 (Nat.lt_irrefl _)
 |1,_=>by rw [Rat.pow_one,Nat.pow_one];exact h
 |k+2,_=>by
  rw [Rat.pow_succ,Nat.pow_succ]
  exact Nat.le_trans (aXy _ _) (Nat.mul_le_mul (bTm h (k+1) (by omega)) h)
theorem bGs {A C n:Nat}{x:Rat}(h:MM x<=A) (hC:A ^ n<=C) (h2:2<=C) (k:Nat) (hk:k<=n):MM (x ^ k)<=C:=by
 rcases k with _|k
 · rw [Rat.pow_zero,bJv];exact h2
 · exact Nat.le_trans (bTm h _ (by omega)) (Nat.le_trans (Nat.pow_le_pow_right (by have:=bJw x;omega) hk) hC)
@[irreducible] def TOP:Nat:=10 ^ 45000
theorem bB6:2<=TOP:=by unfold TOP;decide +kernel
structure RS (x:Rat):Prop where
 top:MM x<=TOP
theorem bMv {n:Nat}(h:2*n<=TOP):(dec n).length<=45000:=by
 rw [aAn _ _ (by omega)]
 have:0<TOP:=by have:=bB6;omega
 have e:TOP=10 ^ 45000:=by unfold TOP;rfl
 rw [<- e];omega
theorem RS.num {x:Rat}(h:RS x):(dec x.num.natAbs).length<=45000:=bMv (by have:=h.top;unfold MM ht at this;omega)
theorem RS.den {x:Rat}(h:RS x):(dec x.den).length<=45000:=bMv (by have:=h.top;unfold MM ht at this;omega)
theorem RS.neg {x:Rat}(h:RS x):RS (-x):=⟨by rw [bJu];exact h.top⟩
theorem aO6:RS 0:=⟨by rw [aO4];exact bB6⟩
theorem bIx (p q:ByteArray):(aIg p q).size<=p.size+1+q.size:=by
 unfold aIg
 split
 · omega
 · rw [ByteArray.size_append,ByteArray.size_append,show aGj.size=1 from rfl];omega
theorem bAp (x:Rat):(aAw x).size<=(dec x.num.natAbs).length+2+(dec x.den).length:=by
 have h1:=bIx (aCl x.num) (aAx x.den)
 have h2:=aFb x.num
 rw [aAq] at h1
 unfold aAw;omega
theorem RS.size {x:Rat}(h:RS x):(aAw x).size<=90002:=by have:=h.num;have:=h.den;have:=bAp x;omega
theorem aW8 (x:Rat):(dec x.num.natAbs).length<=(aAw x).size:=by
 have h:(dec x.num.natAbs).length<=(aCl x.num).size:=by
  unfold aCl;split
  · rw [ByteArray.size_append,aAq];omega
  · rw [aAq];omega
 unfold aAw aIg
 split
 · exact h
 · rw [ByteArray.size_append,ByteArray.size_append];omega
theorem bF7 (x:Rat):x.den=1\/(dec x.den).length<=(aAw x).size:=by
 by_cases h:x.den=1
 · exact .inl h
 · right
   unfold aAw aIg
   rw [if_neg (λe=>h (aDu.1 (e.trans aG4))),ByteArray.size_append,aAq];omega
theorem bF8 (x:Rat):0<(aAw x).size:=by
 have:=aW8 x
 have:=List.length_pos_iff.2 (aEt x.num.natAbs)
 omega
theorem bUm {x:Rat}{n:Nat}(h:(aAw x).size<=n):MM x<=10 ^ (2*n):=by
 have h0:=bF8 x
 have h1:x.num.natAbs<10 ^ n:=(aAn _ _ (by omega)).1 (Nat.le_trans (aW8 x) h)
 have h2:x.den<=10 ^ n:=by
  rcases bF7 x with e|e
  · rw [e];exact Nat.one_le_pow _ _ (by omega)
  · exact Nat.le_of_lt ((aAn _ _ (by omega)).1 (Nat.le_trans e h))
 have h3:ht x<=10 ^ n:=bIk.2 ⟨Nat.le_of_lt h1,h2⟩
 have h4:2<=10 ^ n:=Nat.le_trans (by decide) (Nat.pow_le_pow_right (by omega) (by omega:1<=n))
 unfold MM
 rw [Nat.two_mul n,Nat.pow_add]
 exact Nat.mul_le_mul h4 h3
noncomputable def aN1 (s:ByteArray):Rat:=open Classical in if h:∃x,s=aAw x then h.choose else 0
theorem aJk (x:Rat):aN1 (aAw x)=x:=by
 have h:∃y,aAw x=aAw y:=⟨x,rfl⟩
 rw [aN1,dif_pos h]
 exact (aW7.1 h.choose_spec).symm
theorem aHv {s:ByteArray}(h:aBa s=true):aAw (aN1 s)=s:=by
 obtain ⟨x,rfl⟩:=bXm h
 rw [aJk]
def aAj (v:List Rat):List (List AV):=aCm (v.map aAw)
theorem aAg (v:List Rat):(aAj v).length=v.length:=by unfold aAj;rw [rowS_length,List.length_map]
end Go.V
namespace Go.V
open Go.N Go.Proofs
set_option maxRecDepth 20000
variable (gl:Gl)
def bY3:Tab:=[(231,cAc),(167,cRx),(3,i3),(170,cVk)]
theorem bEo:TOK Tryz.prog bY3:=⟨cBe,⟨cRy,⟨K3,⟨cVu,trivial⟩⟩⟩⟩
def bY4:Tab:=[(231,cAc),(167,cRx),(3,i3),(170,cVk)]
theorem bP6:TOK Tryz.prog bY4:=⟨cBe,⟨cRy,⟨K3,⟨cVu,trivial⟩⟩⟩⟩
def bYj:Tab:=[(9,i9),(4,i4),(231,cAc),(167,cRx)]
theorem bPq:TOK Tryz.prog bYj:=⟨K9,⟨K4,⟨cBe,⟨cRy,trivial⟩⟩⟩⟩
def bYn:Tab:=[(9,i9),(4,i4),(231,cAc),(167,cRx),(3,i3)]
theorem bPu:TOK Tryz.prog bYn:=⟨K9,⟨K4,⟨cBe,⟨cRy,⟨K3,trivial⟩⟩⟩⟩⟩
def bYm:Tab:=[(9,i9),(4,i4),(231,cAc),(167,cRx)]
theorem bPt:TOK Tryz.prog bYm:=⟨K9,⟨K4,⟨cBe,⟨cRy,trivial⟩⟩⟩⟩
def bHj:Tab:=[(9,i9),(4,i4),(231,cAc),(167,cRx)]
theorem aX1:TOK Tryz.prog bHj:=⟨K9,⟨K4,⟨cBe,⟨cRy,trivial⟩⟩⟩⟩
theorem aUo (n:Nat){a:Int}(h:a=n):((n / 4294967296:Nat):Int)=Int.fdiv a (2 ^ (min (Int.toNat 32) (IntKind.bits .u64))):=by rw [h];exact cA3 n
set_option maxHeartbeats 2000000 in
theorem bZp (l l2:List Nat) (hs:aBm l) (hs2:aBm l2) (hl:l.length<1000000) (hl2:l2.length<1000000):aAc Tryz.prog gl 287 [.ro 1 (aAb l),.ro 1 (aAb l2)] (λx=>x= .fr 167 1 (aAb (lim (aA1 l+aA1 l2)))):=by
 have hlen:(aAb l).length=l.length:=limbs_length l
 have hlen2:(aAb l2).length=l2.length:=limbs_length l2
 by_cases hlt:l.length<l2.length
 · refine vgo bEo Tryz.func287 ?_
   repeat' first|refine sV ⟨?_⟩|refine sq (λh=>⟨?_⟩) λh=>⟨?_⟩|fail
   refine ⟨by omega,by omega,by omega,(show (((aAb l2).length:Int)+1)*4<=_ by omega),0,rfl,?_⟩
   repeat' first|refine sX ⟨?_⟩|(refine sp ?_ ?_<;>refine λh=>⟨?_⟩)|fail
   refine ⟨[1,5,6,20,21,22],[0],λk st=>∃(i:Nat) (o:List Nat) (c:Nat),i<=l2.length/\k=l2.length - i/\o.length=i/\aBm o/\c<4294967296/\bv BB o+BB ^ i*c=bv BB (l2.take i)+bv BB (l.take i)/\
    st=⟨[(1,.ro 1 (aAb l)),(5,.own 0 0 (aAb o).length),(6,.int .u64 c),(20,.ro 1 (aAb l2)),(21,.int .i64 ((aAb l2).length:Nat)),(22,.int .i64 (i:Nat))],[.row false 167 1 (aAb o)]⟩,rfl,
    ⟨l2.length,0,[],0,by omega,rfl,rfl,by simp [aBm],by omega,by simp [bv],rfl⟩,?_⟩
   rintro k _ ⟨i,o,c,hi,hk,ho,hso,hc,hv,rfl⟩
   rcases Nat.lt_or_ge i l2.length with hil|hge
   · have hx:l2[i]<4294967296:=hs2 l2[i] (List.getElem_mem hil)
     have hol:(aAb o).length=i:=by rw [limbs_length];exact ho
     have g1:(aAb l2)[i]? =some [.int .u32 ((l2[i]:Nat):Int)]:=aBe hil
     rcases Nat.lt_or_ge i l.length with hi2|hg2
     · have hx2:l[i]<4294967296:=hs l[i] (List.getElem_mem hi2)
       have g2:(aAb l)[i]? =some [.int .u32 ((l[i]:Nat):Int)]:=aBe hi2
       repeat' first|refine sV ⟨?_⟩|refine sq (λh=>⟨?_⟩) λh=>⟨?_⟩|fail
       have he:((c:Int)+((l2[i]:Nat):Int)+((l[i]:Nat):Int)) % 4294967296=(((c+l2[i]+l[i]) % 4294967296:Nat):Int):=by omega
       refine ⟨Nat.le_refl _,(show ((aAb o).length+1)*4<=_ by omega),_,aDn o _ he,?_⟩
       repeat' first|refine sX ⟨?_⟩|(refine sp ?_ ?_<;>refine λh=>⟨?_⟩)|fail
       refine ⟨by decide,_,aUo (c+l2[i]+l[i]) (by omega),?_⟩
       repeat' first|refine sX ⟨?_⟩|(refine sp ?_ ?_<;>refine λh=>⟨?_⟩)|fail
       refine ⟨[2],l2.length - (i+1),rfl,by omega,i+1,o++[(c+l2[i]+l[i]) % 4294967296],(c+l2[i]+l[i]) / 4294967296,by omega,rfl,by simp [ho],aA9 hso (by simp [aBm,BB];omega),by omega,?_,rfl⟩
       have:=aHk BB (x:=l2[i]) (d:=l[i]) ho hv
       rw [aC3 BB hil,aC3 BB hi2]
       exact this
     · repeat' first|refine sV ⟨?_⟩|refine sq (λh=>⟨?_⟩) λh=>⟨?_⟩|fail
       have he:((c:Int)+((l2[i]:Nat):Int)) % 4294967296=(((c+l2[i]+0) % 4294967296:Nat):Int):=by omega
       refine ⟨Nat.le_refl _,(show ((aAb o).length+1)*4<=_ by omega),_,aDn o _ he,?_⟩
       repeat' first|refine sX ⟨?_⟩|(refine sp ?_ ?_<;>refine λh=>⟨?_⟩)|fail
       refine ⟨by decide,_,aUo (c+l2[i]+0) (by omega),?_⟩
       repeat' first|refine sX ⟨?_⟩|(refine sp ?_ ?_<;>refine λh=>⟨?_⟩)|fail
       refine ⟨[2],l2.length - (i+1),rfl,by omega,i+1,o++[(c+l2[i]+0) % 4294967296],(c+l2[i]+0) / 4294967296,by omega,rfl,by simp [ho],aA9 hso (by simp [aBm,BB];omega),by omega,?_,rfl⟩
       have:=aHk BB (x:=l2[i]) (d:=0) ho hv
       rw [aC3 BB hil,bAv BB hg2]
       exact this
   · have hol:(aAb o).length=i:=by rw [limbs_length];exact ho
     repeat' first|refine sV ⟨?_⟩|refine sq (λh=>⟨?_⟩) λh=>⟨?_⟩|fail
     have he:(c:Int) % 4294967296=(c:Nat):=by omega
     refine ⟨Nat.le_refl _,(show ((aAb o).length+1)*4<=_ by omega),_,aDn o _ he,?_⟩
     repeat' first|refine sV ⟨?_⟩|refine sq (λh=>⟨?_⟩) λh=>⟨?_⟩|fail
     have hso2:aBm (o++[c]):=aA9 hso (by simp [aBm,BB];omega)
     conv=>whnf
     refine .inr ⟨[2],rfl,_,aFl gl (o++[c]) hso2 (by simp;omega),?_⟩
     rintro _ _ ⟨rfl,hpre,rfl⟩
     repeat' first|refine sV ⟨?_⟩|refine sq (λh=>⟨?_⟩) λh=>⟨?_⟩|fail
     conv=>whnf
     refine .inr (.inl ?_)
     have e1:i=l2.length:=by omega
     have e2:aA1 (o++[c])=aA1 l+aA1 l2:=by
      rw [aHg,aHg,aHg,aM0,ho,hv,e1,List.take_length,List.take_of_length_le (by omega)];omega
     show AV.fr _ _ ((aAb (o++[c])).take (lim (aA1 (o++[c]))).length)=_
     rw [aCf,<-hpre,e2]
 · refine vgo bEo Tryz.func287 ?_
   repeat' first|refine sV ⟨?_⟩|refine sq (λh=>⟨?_⟩) λh=>⟨?_⟩|fail
   refine ⟨by omega,by omega,by omega,(show (((aAb l).length:Int)+1)*4<=_ by omega),0,rfl,?_⟩
   repeat' first|refine sX ⟨?_⟩|(refine sp ?_ ?_<;>refine λh=>⟨?_⟩)|fail
   refine ⟨[1,5,6,20,21,22],[0],λk st=>∃(i:Nat) (o:List Nat) (c:Nat),i<=l.length/\k=l.length - i/\o.length=i/\aBm o/\c<4294967296/\bv BB o+BB ^ i*c=bv BB (l.take i)+bv BB (l2.take i)/\
    st=⟨[(1,.ro 1 (aAb l2)),(5,.own 0 0 (aAb o).length),(6,.int .u64 c),(20,.ro 1 (aAb l)),(21,.int .i64 ((aAb l).length:Nat)),(22,.int .i64 (i:Nat))],[.row false 167 1 (aAb o)]⟩,rfl,
    ⟨l.length,0,[],0,by omega,rfl,rfl,by simp [aBm],by omega,by simp [bv],rfl⟩,?_⟩
   rintro k _ ⟨i,o,c,hi,hk,ho,hso,hc,hv,rfl⟩
   rcases Nat.lt_or_ge i l.length with hil|hge
   · have hx:l[i]<4294967296:=hs l[i] (List.getElem_mem hil)
     have hol:(aAb o).length=i:=by rw [limbs_length];exact ho
     have g1:(aAb l)[i]? =some [.int .u32 ((l[i]:Nat):Int)]:=aBe hil
     rcases Nat.lt_or_ge i l2.length with hi2|hg2
     · have hx2:l2[i]<4294967296:=hs2 l2[i] (List.getElem_mem hi2)
       have g2:(aAb l2)[i]? =some [.int .u32 ((l2[i]:Nat):Int)]:=aBe hi2
       repeat' first|refine sV ⟨?_⟩|refine sq (λh=>⟨?_⟩) λh=>⟨?_⟩|fail
       have he:((c:Int)+((l[i]:Nat):Int)+((l2[i]:Nat):Int)) % 4294967296=(((c+l[i]+l2[i]) % 4294967296:Nat):Int):=by omega
       refine ⟨Nat.le_refl _,(show ((aAb o).length+1)*4<=_ by omega),_,aDn o _ he,?_⟩
       repeat' first|refine sX ⟨?_⟩|(refine sp ?_ ?_<;>refine λh=>⟨?_⟩)|fail
       refine ⟨by decide,_,aUo (c+l[i]+l2[i]) (by omega),?_⟩
       repeat' first|refine sX ⟨?_⟩|(refine sp ?_ ?_<;>refine λh=>⟨?_⟩)|fail
       refine ⟨[2],l.length - (i+1),rfl,by omega,i+1,o++[(c+l[i]+l2[i]) % 4294967296],(c+l[i]+l2[i]) / 4294967296,by omega,rfl,by simp [ho],aA9 hso (by simp [aBm,BB];omega),by omega,?_,rfl⟩
       have:=aHk BB (x:=l[i]) (d:=l2[i]) ho hv
       rw [aC3 BB hil,aC3 BB hi2]
       exact this
     · repeat' first|refine sV ⟨?_⟩|refine sq (λh=>⟨?_⟩) λh=>⟨?_⟩|fail
       have he:((c:Int)+((l[i]:Nat):Int)) % 4294967296=(((c+l[i]+0) % 4294967296:Nat):Int):=by omega
       refine ⟨Nat.le_refl _,(show ((aAb o).length+1)*4<=_ by omega),_,aDn o _ he,?_⟩
       repeat' first|refine sX ⟨?_⟩|(refine sp ?_ ?_<;>refine λh=>⟨?_⟩)|fail
       refine ⟨by decide,_,aUo (c+l[i]+0) (by omega),?_⟩
       repeat' first|refine sX ⟨?_⟩|(refine sp ?_ ?_<;>refine λh=>⟨?_⟩)|fail
       refine ⟨[2],l.length - (i+1),rfl,by omega,i+1,o++[(c+l[i]+0) % 4294967296],(c+l[i]+0) / 4294967296,by omega,rfl,by simp [ho],aA9 hso (by simp [aBm,BB];omega),by omega,?_,rfl⟩
       have:=aHk BB (x:=l[i]) (d:=0) ho hv
       rw [aC3 BB hil,bAv BB hg2]
       exact this
   · have hol:(aAb o).length=i:=by rw [limbs_length];exact ho
     repeat' first|refine sV ⟨?_⟩|refine sq (λh=>⟨?_⟩) λh=>⟨?_⟩|fail
     have he:(c:Int) % 4294967296=(c:Nat):=by omega
     refine ⟨Nat.le_refl _,(show ((aAb o).length+1)*4<=_ by omega),_,aDn o _ he,?_⟩
     repeat' first|refine sV ⟨?_⟩|refine sq (λh=>⟨?_⟩) λh=>⟨?_⟩|fail
     have hso2:aBm (o++[c]):=aA9 hso (by simp [aBm,BB];omega)
     conv=>whnf
     refine .inr ⟨[2],rfl,_,aFl gl (o++[c]) hso2 (by simp;omega),?_⟩
     rintro _ _ ⟨rfl,hpre,rfl⟩
     repeat' first|refine sV ⟨?_⟩|refine sq (λh=>⟨?_⟩) λh=>⟨?_⟩|fail
     conv=>whnf
     refine .inr (.inl ?_)
     have e1:i=l.length:=by omega
     have e2:aA1 (o++[c])=aA1 l+aA1 l2:=by
      rw [aHg,aHg,aHg,aM0,ho,hv,e1,List.take_length,List.take_of_length_le (by omega)]
     show AV.fr _ _ ((aAb (o++[c])).take (lim (aA1 (o++[c]))).length)=_
     rw [aCf,<-hpre,e2]
theorem bV6 (m n:Nat) (hl:(lim m).length<1000000) (hl2:(lim n).length<1000000):aAc Tryz.prog gl 287 [.ro 1 (aAb (lim m)),.ro 1 (aAb (lim n))] (λx=>x= .ro 1 (aAb (lim (m+n)))):=by
 have h:=bZp gl (lim m) (lim n) (aAz m) (aAz n) hl hl2
 rw [aA4,aA4] at h
 exact aAc.taken (h.mono λx hx=>⟨_,by rw [hx];rfl,rfl⟩)
theorem bV7 (m n:Nat) (hl:(lim m).length<1000000) (hmn:n<=m):aAc Tryz.prog gl 268 [.ro 1 (aAb (lim m)),.ro 1 (aAb (lim n))] (λx=>x= .ro 1 (aAb (lim (m - n)))):=by
 have h:=bV9 gl (lim m) (lim n) (aAz m) (aAz n) hl (aKc hmn) (by rw [aA4,aA4];exact hmn)
 rw [aA4,aA4] at h
 refine aAc.taken (h.mono λx hx=>?_)
 rcases hx with rfl|⟨h0,rfl⟩
 · exact ⟨_,rfl,rfl⟩
 · have:m=0:=by have:=aBb m;rw [h0] at this;simpa using this
   subst this
   exact ⟨_,rfl,by rw [Nat.zero_sub,aCi]⟩
set_option maxHeartbeats 4000000 in
theorem bZq (l l2:List Nat) (hs:aBm l) (hs2:aBm l2) (hl:l.length<1000000) (hl2:l2.length<1000000):aAc Tryz.prog gl 246 [.ro 1 (aAb l),.ro 1 (aAb l2)] (λx=>x= .ro 1 (aAb (lim (aA1 l*aA1 l2)))):=by
 refine aAc.taken ?_
 have hlen:(aAb l).length=l.length:=limbs_length l
 have hlen2:(aAb l2).length=l2.length:=limbs_length l2
 refine vgo bP6 Tryz.func246 ?_
 repeat' first|refine sV ⟨?_⟩|refine sq (λh=>⟨?_⟩) λh=>⟨?_⟩|fail
 refine ⟨by omega,Int.le_refl _,by omega,(show ((((aAb l).length:Nat):Int)+((aAb l2).length:Nat))*4<=_ by omega),l.length+l2.length,by omega,?_⟩
 repeat' first|refine sV ⟨?_⟩|refine sq (λh=>⟨?_⟩) λh=>⟨?_⟩|fail
 have hrep:List.replicate (l.length+l2.length) [AV.int .u32 0]=aAb (List.replicate (l.length+l2.length) 0):=by simp [aAb]
 refine ⟨[1,5,17,18,19],[0],λm st=>∃(i:Nat) (o:List Nat),i<=l.length/\m=l.length - i/\Mul1 BB l l2 i o/\
  st=⟨[(1,.ro 1 (aAb l2)),(5,.own 0 0 (l.length+l2.length)),(17,.ro 1 (aAb l)),(18,.int .i64 ((aAb l).length:Nat)),(19,.int .i64 (i:Nat))],[.row false 167 1 (aAb o)]⟩,rfl,
  ⟨l.length,0,_,by omega,rfl,bAe (by decide) l l2,Eq.trans rfl (congrArg (λz:List (List AV)=>(⟨[(1,.ro 1 (aAb l2)),(5,.own 0 0 (l.length+l2.length)),(17,.ro 1 (aAb l)),(18,.int .i64 ((aAb l).length:Nat)),(19,.int .i64 ((0:Nat):Int))],[.row false 167 1 z]⟩:St)) hrep)⟩,?_⟩
 rintro m _ ⟨i,o,hi,hm,h1,rfl⟩
 rcases Nat.lt_or_ge i l.length with hil|hge
 · have hx:l[i]<4294967296:=hs l[i] (List.getElem_mem hil)
   have gx:(aAb l)[i]? =some [.int .u32 ((l[i]:Nat):Int)]:=aBe hil
   repeat' first|refine sV ⟨?_⟩|refine sq (λh=>⟨?_⟩) λh=>⟨?_⟩|fail
   refine ⟨[1,5,6,7,8,17,18,19,24,25,26],[0],λm st=>∃(k:Nat) (o:List Nat) (c:Nat),k<=l2.length/\m=l2.length - k/\Mul2 BB l l2 i k o c/\
    st=⟨[(1,.ro 1 (aAb l2)),(5,.own 0 0 (l.length+l2.length)),(6,.int .i64 (i:Nat)),(7,.int .u32 ((l[i]:Nat):Int)),(8,.int .u64 (c:Nat)),(17,.ro 1 (aAb l)),(18,.int .i64 ((aAb l).length:Nat)),(19,.int .i64 (i:Nat)),
     (24,.ro 1 (aAb l2)),(25,.int .i64 ((aAb l2).length:Nat)),(26,.int .i64 (k:Nat))],[.row false 167 1 (aAb o)]⟩,rfl,
    ⟨l2.length,0,o,0,by omega,rfl,bT8 (by decide) h1,rfl⟩,?_⟩
   clear h1
   rintro m2 _ ⟨k,o,c,hk,hm2,h2,rfl⟩
   have hol:=h2.len
   have hc:c<4294967296:=h2.cl
   rcases Nat.lt_or_ge k l2.length with hkl|hkge
   · have hy:l2[k]<4294967296:=hs2 l2[k] (List.getElem_mem hkl)
     have gy:(aAb l2)[k]? =some [.int .u32 ((l2[k]:Nat):Int)]:=aBe hkl
     have ho:i+k<o.length:=by omega
     have hd:o[i+k]<4294967296:=h2.lt o[i+k] (List.getElem_mem ho)
     have go:(aAb o)[0+(i+k)]? =some [.int .u32 ((o[i+k]:Nat):Int)]:=by rw [Nat.zero_add];exact aBe ho
     have hst:=bFx h2 hil hkl hx hy ho
     have hml:=bT9 hc hd hx hy
     have hcast:(l[i]:Int)*(l2[k]:Int)=((l[i]*l2[k]:Nat):Int):=by simp
     generalize hP:l[i]*l2[k]=p at hst hml hcast
     have hp1:(0:Int)<=(l[i]:Int)*(l2[k]:Int):=by omega
     have hp2:(l[i]:Int)*(l2[k]:Int)<=18446744065119617025:=by
      have:l[i]*l2[k]<=4294967295*4294967295:=Nat.mul_le_mul (by omega) (by omega)
      omega
     repeat' first|refine sV ⟨?_⟩|refine sq (λh=>⟨?_⟩) λh=>⟨?_⟩|fail
     refine ⟨i+k,by omega,by omega,?_⟩
     repeat' first|refine sV ⟨?_⟩|refine sq (λh=>⟨?_⟩) λh=>⟨?_⟩|fail
     have he:((c:Int)+((o[i+k]:Int)+(l[i]:Int)*(l2[k]:Int))) % 4294967296=(((c+(o[i+k]+p)) % 4294967296:Nat):Int):=by rw [hcast];omega
     have hset:(aAb o).set (0+(i+k)) [.int .u32 (((c:Int)+((o[i+k]:Int)+(l[i]:Int)*(l2[k]:Int))) % 4294967296)]=aAb (o.set (i+k) ((c+(o[i+k]+p)) % 4294967296)):=by rw [Nat.zero_add];exact aD0 o (i+k) _ he
     refine ⟨i+k,by omega,by omega,?_⟩
     repeat' first|refine sV ⟨?_⟩|refine sq (λh=>⟨?_⟩) λh=>⟨?_⟩|fail
     refine ⟨by decide,_,aUo (c+(o[i+k]+p)) (by rw [hcast];omega),?_⟩
     repeat' first|refine sV ⟨?_⟩|refine sq (λh=>⟨?_⟩) λh=>⟨?_⟩|fail
     refine ⟨[0],l2.length - (k+1),rfl,by omega,k+1,_,_,by omega,rfl,hst,?_⟩
     refine Eq.trans rfl (congrArg (λz:List (List AV)=>(⟨[(1,.ro 1 (aAb l2)),(5,.own 0 0 (l.length+l2.length)),(6,.int .i64 (i:Nat)),(7,.int .u32 ((l[i]:Nat):Int)),(8,.int .u64 (((c+(o[i+k]+p)) / 4294967296:Nat):Int)),(17,.ro 1 (aAb l)),(18,.int .i64 ((aAb l).length:Nat)),(19,.int .i64 (i:Nat)),
      (24,.ro 1 (aAb l2)),(25,.int .i64 ((aAb l2).length:Nat)),(26,.int .i64 ((k+1:Nat):Int))],[.row false 167 1 z]⟩:St)) hset)
   · obtain rfl:k=l2.length:=by omega
     have h3:=bNx h2 hil (by omega)
     have he:(c:Int) % 4294967296=((c:Nat):Int):=by omega
     have hset:(aAb o).set (0+(i+l2.length)) [.int .u32 ((c:Int) % 4294967296)]=aAb (o.set (i+l2.length) c):=by rw [Nat.zero_add];exact aD0 o (i+l2.length) _ he
     have go:(aAb o)[0+(i+l2.length)]? =some [.int .u32 ((o[i+l2.length]'(by omega):Nat):Int)]:=by rw [Nat.zero_add];exact aBe (by omega)
     repeat' first|refine sV ⟨?_⟩|refine sq (λh=>⟨?_⟩) λh=>⟨?_⟩|fail
     refine ⟨i+l2.length,by omega,by omega,?_⟩
     repeat' first|refine sV ⟨?_⟩|refine sq (λh=>⟨?_⟩) λh=>⟨?_⟩|fail
     refine ⟨[0],l.length - (i+1),rfl,by omega,i+1,_,by omega,rfl,h3,?_⟩
     refine Eq.trans rfl (congrArg (λz:List (List AV)=>(⟨[(1,.ro 1 (aAb l2)),(5,.own 0 0 (l.length+l2.length)),(17,.ro 1 (aAb l)),(18,.int .i64 ((aAb l).length:Nat)),(19,.int .i64 ((i+1:Nat):Int))],[.row false 167 1 z]⟩:St)) hset)
 · obtain rfl:i=l.length:=by omega
   have hv:=bNw h1
   rw [<- aHg,<-aHg,<-aHg] at hv
   have hol:=h1.len
   repeat' first|refine sV ⟨?_⟩|refine sq (λh=>⟨?_⟩) λh=>⟨?_⟩|fail
   conv=>whnf
   have ht:=aFl gl o h1.lt (by omega)
   rw [limbs_length,hol] at ht
   refine .inr ⟨[0],rfl,_,ht,?_⟩
   rintro _ _ ⟨rfl,hpre,rfl⟩
   repeat' first|refine sV ⟨?_⟩|refine sq (λh=>⟨?_⟩) λh=>⟨?_⟩|fail
   conv=>whnf
   refine .inr (.inl ⟨_,rfl,?_⟩)
   show AV.ro 1 ((aAb o).take (lim (aA1 o)).length)=_
   rw [aCf,<-hpre,hv]
theorem aK7 {m n k:Nat}(hk:0<k) (hm:(dec m).length<=k) (hn:(dec n).length<=k):(dec (m+n)).length<=k+1:=by
 have h1:=(aAn m k hk).1 hm
 have h2:=(aAn n k hk).1 hn
 exact (aAn (m+n) _ (by omega)).2 (by rw [Nat.pow_succ];generalize 10 ^ k=q at h1 h2 ⊢;omega)
theorem aV1 {m n k j:Nat}(hk:0<k) (hj:0<j) (hm:(dec m).length<=k) (hn:(dec n).length<=j):(dec (m*n)).length<=k+j:=by
 have h1:=(aAn m k hk).1 hm
 have h2:=(aAn n j hj).1 hn
 exact (aAn (m*n) _ (by omega)).2 (by rw [Nat.pow_add];exact Nat.mul_lt_mul'' h1 h2)
theorem bTs (m n:Nat) (hm:(dec m).length<=100000) (hn:(dec n).length<=100000):aAc Tryz.prog gl 277 [.str (aAx m),.str (aAx n)] (λx=>x= .tup [.str (aAx (m+n)),.int .i64 0]):=by
 have hb:=aJ4 gl m n (by omega) (by omega)
 have hlm:=aBd m
 have hln:=aBd n
 have ha:=bV6 gl m n (by omega) (by omega)
 have ht:=aTx gl (m+n) (by have:=aK7 (by omega) hm hn;omega)
 refine vgo bPq Tryz.func277 ?_
 repeat' first|refine sV ⟨?_⟩|refine sq (λh=>⟨?_⟩) λh=>⟨?_⟩|fail
 conv=>whnf
 rfl
theorem bZe (m n:Nat) (hm:(dec m).length<=100000) (hn:(dec n).length<=100000):aAc Tryz.prog gl 208 [.str (aAx m),.str (aAx n)] (λx=>x= .tup [.str (aAx (m*n)),.int .i64 0]):=by
 have hb:=aJ4 gl m n (by omega) (by omega)
 have hlm:=aBd m
 have hln:=aBd n
 have ha:=bZq gl (lim m) (lim n) (aAz m) (aAz n) (by omega) (by omega)
 rw [aA4,aA4] at ha
 have ht:=aTx gl (m*n) (by have:=aV1 (by omega) (by omega) hm hn;omega)
 refine vgo bPt Tryz.func208 ?_
 repeat' first|refine sV ⟨?_⟩|refine sq (λh=>⟨?_⟩) λh=>⟨?_⟩|fail
 conv=>whnf
 rfl
theorem bEy (m n:Nat) (hmn:n<=m) (hm:(dec m).length<=100000) (hn:(dec n).length<=100000):aAc Tryz.prog gl 279 [.str (aAx m),.str (aAx n)] (λx=>x= .tup [.str (aAx (m - n)),.int .i64 0]):=by
 have hb:=aJ4 gl m n (by omega) (by omega)
 have hlm:=aBd m
 have hln:=aBd n
 have ha:=bV7 gl m n (by omega) hmn
 have hc:=aLu gl m n (by omega) (by omega)
 have hge:=(aI4 (m:=m)).2 hmn
 have ht:=aTx gl (m - n) (by have:=aBw (Nat.sub_le m n);omega)
 refine vgo bPu Tryz.func279 ?_
 repeat' first|refine sV ⟨?_⟩|refine sq (λh=>⟨?_⟩) λh=>⟨?_⟩|fail
 conv=>whnf
 rfl
theorem bH2 (m n:Nat) (hm:(dec m).length<=100000) (hn:(dec n).length<=100000):aAc Tryz.prog gl 278 [.str (aAx m),.str (aAx n)] (λx=>x= .tup [.int .i64 (aZo m n),.int .i64 0]):=by
 have hb:=aJ4 gl m n (by omega) (by omega)
 have hlm:=aBd m
 have hln:=aBd n
 have hc:=aLu gl m n (by omega) (by omega)
 refine vgo aX1 Tryz.func278 ?_
 repeat' first|refine sV ⟨?_⟩|refine sq (λh=>⟨?_⟩) λh=>⟨?_⟩|fail
 conv=>whnf
 rfl
end Go.V
namespace Go.V
open Go.N Go.Proofs
set_option maxRecDepth 20000
variable (gl:Gl)
end Go.V
namespace Go.V
open Go.N Go.Proofs
set_option maxRecDepth 20000
variable (gl:Gl)
def bU3:Tab:=[(222,cV3),(9,i9)]
theorem bJ8:TOK Tryz.prog bU3:=⟨cWl,⟨K9,trivial⟩⟩
def bYw:Tab:=[(222,cV3),(4,i4),(9,i9),(3,i3)]
theorem aJv:TOK Tryz.prog bYw:=⟨cWl,⟨K4,⟨K9,⟨K3,trivial⟩⟩⟩⟩
def bYs:Tab:=[(9,i9),(222,cV3),(4,i4)]
theorem bPz:TOK Tryz.prog bYs:=⟨K9,⟨cWl,⟨K4,trivial⟩⟩⟩
def bYv:Tab:=[(9,i9),(222,cV3),(4,i4)]
theorem bP1:TOK Tryz.prog bYv:=⟨K9,⟨cWl,⟨K4,trivial⟩⟩⟩
def bYt:Tab:=[(9,i9),(222,cV3),(4,i4)]
theorem aOe:TOK Tryz.prog bYt:=⟨K9,⟨cWl,⟨K4,trivial⟩⟩⟩
def bU2:Tab:=[(9,i9),(222,cV3),(4,i4)]
theorem aO8:TOK Tryz.prog bU2:=⟨K9,⟨cWl,⟨K4,trivial⟩⟩⟩
def sg (a:Int):Int:=if a<0 then -1 else if a=0 then 0 else 1
def aFx (m:Bool) (k:Nat):Int:=if m=true then -(k:Int) else k
theorem aXk (a:Int):aFx (decide (a<0)) a.natAbs=a:=by
 unfold aFx
 by_cases h:a<0
 · rw [decide_eq_true h,if_pos rfl];omega
 · rw [decide_eq_false h,if_neg (by simp)];omega
theorem cCx (m:Bool) (k:Nat):(if m=true/\aAx k≠aAx 0 then aAo++aAx k else aAx k)=aCl (aFx m k):=by
 have hd:aAx k≠aAx 0↔k≠0:=by rw [ne_eq,aDu]
 cases m
 · rw [if_neg (by simp)]
   show _=aCl (k:Int)
   rw [aEp]
 · show _=aCl (-(k:Int))
   by_cases h0:k=0
   · subst h0;rw [if_neg (by simp)];exact (aEp 0).symm
   · rw [if_pos ⟨rfl,hd.2 h0⟩,aCl,if_pos (by omega),Int.natAbs_neg,Int.natAbs_natCast]
theorem aOh (m:Bool) (k:Nat) (hk:(dec k).length<9000000):aAc Tryz.prog gl 202 [.agg [.bool m,.str (aAx k)]] (λx=>x= .str (aCl (aFx m k))):=by
 have h:=bLw gl m (aAx k) (by rw [aAq];omega)
 rwa [cCx] at h
theorem aVt (a:Int) (ha:(dec a.natAbs).length<9000000):aAc Tryz.prog gl 196 [.str (aCl a)] (λx=>x= .tup [.agg [.bool (decide (a<0)),.str (aAx a.natAbs)],.bool true]):=by
 have hs:=aFb a
 have h:=bDb gl (aCl a) (by omega)
 rwa [aHp,aEh,aG0] at h
theorem bDa (a b:Int) (ha:(dec a.natAbs).length<9000000) (hb:(dec b.natAbs).length<9000000):
 aAc Tryz.prog gl 207 [.str (aCl a),.str (aCl b)] (λx=>x= .tup [.agg [.bool (decide (a<0)),.str (aAx a.natAbs)],.agg [.bool (decide (b<0)),.str (aAx b.natAbs)],.bool true]):=by
 have h1:=aVt gl a ha
 have h2:=aVt gl b hb
 refine vgo bJ8 Tryz.func207 ?_
 repeat' first|refine sV ⟨?_⟩|refine sq (λh=>⟨?_⟩) λh=>⟨?_⟩|fail
 refine ⟨by decide +kernel,[0,0,0,4,12,28,13,79,255],by decide +kernel,?_⟩
 repeat' first|refine sV ⟨?_⟩|refine sq (λh=>⟨?_⟩) λh=>⟨?_⟩|fail
 conv=>whnf
 rfl
def bI8 (p q:Bool) (m n:Nat):Bool:=if p=q then p else if m<n then q else p
def bEc (p q:Bool) (m n:Nat):Nat:=if p=q then m+n else if m<n then n - m else m - n
theorem bGl (p q:Bool) (m n:Nat):aFx (bI8 p q m n) (bEc p q m n)=aFx p m+aFx q n:=by
 by_cases h:m<n<;>cases p<;>cases q<;>simp [aFx,bI8,bEc,h]<;>omega
theorem bOt (p q:Bool) (m n:Nat):bEc p q m n<=m+n:=by unfold bEc;split<;>(try split)<;>omega
set_option maxHeartbeats 2000000 in
theorem bTu (p q:Bool) (m n:Nat) (hm:(dec m).length<=100000) (hn:(dec n).length<=100000):
 aAc Tryz.prog gl 257 [.agg [.bool p,.str (aAx m)],.agg [.bool q,.str (aAx n)]] (λx=>x= .agg [.bool (bI8 p q m n),.str (aAx (bEc p q m n))]):=by
 have hc:=bH2 gl m n hm hn
 cases p<;>cases q
 · have h:=bTs gl m n hm hn
   show aAc _ _ _ _ (λx=>x= .agg [.bool false,.str (aAx (m+n))])
   refine vgo aJv Tryz.func257 ?_
   repeat' first|refine sV ⟨?_⟩|refine sq (λh=>⟨?_⟩) λh=>⟨?_⟩|fail
   conv=>whnf
   rfl
 · by_cases hlt:m<n
   · have h:=bEy gl n m (by omega) hn hm
     rw [aH7 hlt] at hc
     have e1:bI8 false true m n=true:=by unfold bI8;rw [if_neg (by simp),if_pos hlt]
     have e2:bEc false true m n=n - m:=by unfold bEc;rw [if_neg (by simp),if_pos hlt]
     rw [e1,e2]
     refine vgo aJv Tryz.func257 ?_
     repeat' first|refine sV ⟨?_⟩|refine sq (λh=>⟨?_⟩) λh=>⟨?_⟩|fail
     conv=>whnf
     rfl
   · have h:=bEy gl m n (by omega) hm hn
     have hge:=(aI4 (m:=m) (n:=n)).2 (by omega)
     have e1:bI8 false true m n=false:=by unfold bI8;rw [if_neg (by simp),if_neg hlt]
     have e2:bEc false true m n=m - n:=by unfold bEc;rw [if_neg (by simp),if_neg hlt]
     rw [e1,e2]
     refine vgo aJv Tryz.func257 ?_
     repeat' first|refine sV ⟨?_⟩|refine sq (λh=>⟨?_⟩) λh=>⟨?_⟩|fail
     conv=>whnf
     rfl
 · by_cases hlt:m<n
   · have h:=bEy gl n m (by omega) hn hm
     rw [aH7 hlt] at hc
     have e1:bI8 true false m n=false:=by unfold bI8;rw [if_neg (by simp),if_pos hlt]
     have e2:bEc true false m n=n - m:=by unfold bEc;rw [if_neg (by simp),if_pos hlt]
     rw [e1,e2]
     refine vgo aJv Tryz.func257 ?_
     repeat' first|refine sV ⟨?_⟩|refine sq (λh=>⟨?_⟩) λh=>⟨?_⟩|fail
     conv=>whnf
     rfl
   · have h:=bEy gl m n (by omega) hm hn
     have hge:=(aI4 (m:=m) (n:=n)).2 (by omega)
     have e1:bI8 true false m n=true:=by unfold bI8;rw [if_neg (by simp),if_neg hlt]
     have e2:bEc true false m n=m - n:=by unfold bEc;rw [if_neg (by simp),if_neg hlt]
     rw [e1,e2]
     refine vgo aJv Tryz.func257 ?_
     repeat' first|refine sV ⟨?_⟩|refine sq (λh=>⟨?_⟩) λh=>⟨?_⟩|fail
     conv=>whnf
     rfl
 · have h:=bTs gl m n hm hn
   show aAc _ _ _ _ (λx=>x= .agg [.bool true,.str (aAx (m+n))])
   refine vgo aJv Tryz.func257 ?_
   repeat' first|refine sV ⟨?_⟩|refine sq (λh=>⟨?_⟩) λh=>⟨?_⟩|fail
   conv=>whnf
   rfl
theorem bZg (a b:Int) (ha:(dec a.natAbs).length<=100000) (hb:(dec b.natAbs).length<=100000):aAc Tryz.prog gl 223 [.str (aCl a),.str (aCl b)] (λx=>x= .tup [.str (aCl (a+b)),.int .i64 0]):=by
 have h1:=bDa gl a b (by omega) (by omega)
 have h2:=bTu gl (decide (a<0)) (decide (b<0)) a.natAbs b.natAbs ha hb
 have h3:=aOh gl (bI8 (decide (a<0)) (decide (b<0)) a.natAbs b.natAbs) (bEc (decide (a<0)) (decide (b<0)) a.natAbs b.natAbs) (by
  have:=aBw (bOt (decide (a<0)) (decide (b<0)) a.natAbs b.natAbs)
  have:=aK7 (by omega) ha hb
  omega)
 rw [bGl,aXk,aXk] at h3
 refine vgo bPz Tryz.func223 ?_
 repeat' first|refine sV ⟨?_⟩|refine sq (λh=>⟨?_⟩) λh=>⟨?_⟩|fail
 conv=>whnf
 rfl
theorem bS9 (a:Int):aFx (!decide (a<0)) a.natAbs= -a:=by
 unfold aFx
 by_cases h:a<0
 · rw [decide_eq_true h];simp;omega
 · rw [decide_eq_false h];simp;omega
theorem bZj (a b:Int) (ha:(dec a.natAbs).length<=100000) (hb:(dec b.natAbs).length<=100000):aAc Tryz.prog gl 225 [.str (aCl a),.str (aCl b)] (λx=>x= .tup [.str (aCl (a - b)),.int .i64 0]):=by
 have h1:=bDa gl a b (by omega) (by omega)
 have h2:=bTu gl (decide (a<0)) (!decide (b<0)) a.natAbs b.natAbs ha hb
 have h3:=aOh gl (bI8 (decide (a<0)) (!decide (b<0)) a.natAbs b.natAbs) (bEc (decide (a<0)) (!decide (b<0)) a.natAbs b.natAbs) (by
  have:=aBw (bOt (decide (a<0)) (!decide (b<0)) a.natAbs b.natAbs)
  have:=aK7 (by omega) ha hb
  omega)
 rw [bGl,aXk,bS9,<-Int.sub_eq_add_neg] at h3
 refine vgo bP1 Tryz.func225 ?_
 repeat' first|refine sV ⟨?_⟩|refine sq (λh=>⟨?_⟩) λh=>⟨?_⟩|fail
 conv=>whnf
 rfl
theorem aWy {a b:Int}(ha:a<0) (hb:¬b<0):aFx true (a.natAbs*b.natAbs)=a*b:=by
 obtain ⟨k,rfl⟩:∃k:Nat,a= -(k:Int):=⟨a.natAbs,by omega⟩
 obtain ⟨j,rfl⟩:∃j:Nat,b=j:=⟨b.natAbs,by omega⟩
 simp [aFx,Int.natAbs_neg,Int.neg_mul]
theorem bFw {a b:Int}(ha:¬a<0) (hb:b<0):aFx true (a.natAbs*b.natAbs)=a*b:=by rw [Nat.mul_comm,Int.mul_comm];exact aWy hb ha
theorem aOs {a b:Int}(h:a<0↔b<0):aFx false (a.natAbs*b.natAbs)=a*b:=by
 by_cases ha:a<0
 · obtain ⟨k,rfl⟩:∃k:Nat,a= -(k:Int):=⟨a.natAbs,by omega⟩
   obtain ⟨j,rfl⟩:∃j:Nat,b= -(j:Int):=⟨b.natAbs,by have:=h.1 ha;omega⟩
   simp [aFx,Int.natAbs_neg,Int.neg_mul_neg]
 · obtain ⟨k,rfl⟩:∃k:Nat,a=k:=⟨a.natAbs,by omega⟩
   obtain ⟨j,rfl⟩:∃j:Nat,b=j:=⟨b.natAbs,by have:=λe=>ha (h.2 e);omega⟩
   simp [aFx]
set_option maxHeartbeats 2000000 in
theorem bZh (a b:Int) (ha:(dec a.natAbs).length<=100000) (hb:(dec b.natAbs).length<=100000):aAc Tryz.prog gl 166 [.str (aCl a),.str (aCl b)] (λx=>x= .tup [.str (aCl (a*b)),.int .i64 0]):=by
 have h1:=bDa gl a b (by omega) (by omega)
 have h2:=bZe gl a.natAbs b.natAbs ha hb
 have hd:=aV1 (by omega) (by omega) ha hb
 have ht:=aOh gl true (a.natAbs*b.natAbs) (by omega)
 have hf:=aOh gl false (a.natAbs*b.natAbs) (by omega)
 by_cases sa:a<0<;>by_cases sb:b<0
 · rw [decide_eq_true sa,decide_eq_true sb] at h1
   rw [aOs ⟨λ_=>sb,λ_=>sa⟩] at hf
   refine vgo aOe Tryz.func166 ?_
   repeat' first|refine sV ⟨?_⟩|refine sq (λh=>⟨?_⟩) λh=>⟨?_⟩|fail
   conv=>whnf
   rfl
 · rw [decide_eq_true sa,decide_eq_false sb] at h1
   rw [aWy sa sb] at ht
   refine vgo aOe Tryz.func166 ?_
   repeat' first|refine sV ⟨?_⟩|refine sq (λh=>⟨?_⟩) λh=>⟨?_⟩|fail
   conv=>whnf
   rfl
 · rw [decide_eq_false sa,decide_eq_true sb] at h1
   rw [bFw sa sb] at ht
   refine vgo aOe Tryz.func166 ?_
   repeat' first|refine sV ⟨?_⟩|refine sq (λh=>⟨?_⟩) λh=>⟨?_⟩|fail
   conv=>whnf
   rfl
 · rw [decide_eq_false sa,decide_eq_false sb] at h1
   rw [aOs ⟨λh=>absurd h sa,λh=>absurd h sb⟩] at hf
   refine vgo aOe Tryz.func166 ?_
   repeat' first|refine sV ⟨?_⟩|refine sq (λh=>⟨?_⟩) λh=>⟨?_⟩|fail
   conv=>whnf
   rfl
theorem bVx (a:Int) (ha:(dec a.natAbs).length<=100000):aAc Tryz.prog gl 280 [.str (aCl a)] (λx=>x= .tup [.int .i64 (sg a),.int .i64 0]):=by
 have h1:=aVt gl a (by omega)
 have hz:aAx a.natAbs=⟨#[48]⟩↔a=0:=by rw [aB8,aDu];omega
 rcases (by omega:a<0\/a=0\/0<a) with h|h|h
 · rw [decide_eq_true h] at h1
   rw [show sg a= -1 by unfold sg;rw [if_pos h]]
   refine vgo aO8 Tryz.func280 ?_
   repeat' first|refine sV ⟨?_⟩|refine sq (λh=>⟨?_⟩) λh=>⟨?_⟩|fail
   conv=>whnf
   rfl
 · subst h
   have h0:aAx (Int.natAbs 0)=⟨#[48]⟩:=hz.2 rfl
   refine vgo aO8 Tryz.func280 ?_
   repeat' first|refine sV ⟨?_⟩|refine sq (λh=>⟨?_⟩) λh=>⟨?_⟩|fail
   all_goals (conv=>whnf)
   all_goals rfl
 · have h0:¬aAx a.natAbs=⟨#[48]⟩:=λe=>by have:=hz.1 e;omega
   rw [decide_eq_false (by omega)] at h1
   rw [show sg a=1 by unfold sg;rw [if_neg (by omega),if_neg (by omega)]]
   refine vgo aO8 Tryz.func280 ?_
   repeat' first|refine sV ⟨?_⟩|refine sq (λh=>⟨?_⟩) λh=>⟨?_⟩|fail
   all_goals (conv=>whnf)
   all_goals rfl
end Go.V
namespace Go.V
open Go.N Go.Proofs
set_option maxRecDepth 20000
def bUx:Tab:=[(9,i9),(146,cVv),(148,cW1)]
theorem bJ3:TOK Tryz.prog bUx:=⟨K9,⟨cVx,⟨cW5,trivial⟩⟩⟩
def bU1:Tab:=[(146,cVv),(148,cW1)]
theorem bJ7:TOK Tryz.prog bU1:=⟨cVx,⟨cW5,trivial⟩⟩
def bQk:Tab:=[(9,i9)]
theorem bG3:TOK Tryz.prog bQk:=⟨K9,trivial⟩
def bUt:Tab:=[(146,cVv),(9,i9)]
theorem bJz:TOK Tryz.prog bUt:=⟨cVx,⟨K9,trivial⟩⟩
def bUw:Tab:=[(146,cVv),(9,i9)]
theorem bJ2:TOK Tryz.prog bUw:=⟨cVx,⟨K9,trivial⟩⟩
def bUu:Tab:=[(146,cVv),(9,i9)]
theorem bJ0:TOK Tryz.prog bUu:=⟨cVx,⟨K9,trivial⟩⟩
def bYo:Tab:=[(9,i9),(154,cX4)]
theorem bPv:TOK Tryz.prog bYo:=⟨K9,⟨cYb,trivial⟩⟩
def bYr:Tab:=[(9,i9),(154,cX4)]
theorem bPy:TOK Tryz.prog bYr:=⟨K9,⟨cYb,trivial⟩⟩
def bYp:Tab:=[(9,i9),(154,cX4)]
theorem bPw:TOK Tryz.prog bYp:=⟨K9,⟨cYb,trivial⟩⟩
def bYq:Tab:=[(9,i9)]
theorem bPx:TOK Tryz.prog bYq:=⟨K9,trivial⟩
def bQh:Tab:=[(9,i9),(146,cVv),(148,cW1),(3,i3)]
theorem bG0:TOK Tryz.prog bQh:=⟨K9,⟨cVx,⟨cW5,⟨K3,trivial⟩⟩⟩⟩
def bUv:Tab:=[(9,i9),(146,cVv),(148,cW1)]
theorem bJ1:TOK Tryz.prog bUv:=⟨K9,⟨cVx,⟨cW5,trivial⟩⟩⟩
def bHk:Tab:=[(9,i9),(28,i28)]
theorem aX2:TOK Tryz.prog bHk:=⟨K9,⟨K28,trivial⟩⟩
def aC2 (x:Rat):AV:=.agg [.str (aCl x.num),.str (aAx x.den)]
theorem aCz:aAw 0=⟨#[48]⟩:=by decide +kernel
theorem aOw:aAw 1=⟨#[49]⟩:=by decide +kernel
theorem aOg {x:Rat}(hx:RS x):aAc Tryz.prog GL 111 [.str (aAw x)] (λv=>v= .tup [aC2 x,.nili]):=by
 have h:=bLv (aAw x) (by have:=hx.size;omega)
 obtain ⟨h1,h2,h3⟩:=aE2 x
 rw [if_pos h1,h2,h3] at h
 exact h
theorem aVo (a b:Int) (ha:(dec a.natAbs).length<=100000) (hb:(dec b.natAbs).length<=100000):aAc Tryz.prog GL 115 [.str (aCl a),.str (aCl b)] (λv=>v= .str (aCl (a*b))):=by
 have h:=bZh GL a b ha hb
 refine vgo bG3 Tryz.func115 ?_
 repeat' first|refine sV ⟨?_⟩|refine sq (λh=>⟨?_⟩) λh=>⟨?_⟩|fail
 all_goals (conv=>whnf)
 all_goals rfl
theorem aLt (a:Int) (n:Nat) (ha:(dec a.natAbs).length<=100000) (hn:(dec n).length<=100000):aAc Tryz.prog GL 115 [.str (aCl a),.str (aAx n)] (λv=>v= .str (aCl (a*n))):=by
 have h:=aVo a n ha (by rw [Int.natAbs_natCast];exact hn)
 rwa [aEp] at h
theorem aM2 (m n:Nat) (hm:(dec m).length<=100000) (hn:(dec n).length<=100000):aAc Tryz.prog GL 115 [.str (aAx m),.str (aAx n)] (λv=>v= .str (aAx (m*n))):=by
 have h:=aVo m n (by rw [Int.natAbs_natCast];exact hm) (by rw [Int.natAbs_natCast];exact hn)
 rwa [aEp,aEp,<-Int.natCast_mul,aEp] at h
theorem bC2 (n:Int) (d:Nat) (hd:d≠0) (hn:(dec n.natAbs).length<=100000) (hdl:(dec d).length<=100000):aAc Tryz.prog GL 114 [.str (aCl n),.str (aAx d)] (λv=>v= .tup [aC2 (mkRat n d),.nili]):=by
 have hs:=aFb n
 have h:=aPt GL (aCl n) d (aG0 n) hd (by omega) (by omega)
 rwa [aL5 n hd,aL7 n hd] at h
theorem bVw (r:Rat) (h1:(dec r.num.natAbs).length<=100000) (h2:(dec r.den).length<=100000):aAc Tryz.prog GL 160 [aC2 r,.nili] (λv=>v= .tup [.str (aAw r),.int .i64 0]):=by
 have hs:=aFb r.num
 have h:=bC3 GL (aCl r.num) (aAx r.den) (by omega) (by rw [aAq];omega)
 refine vgo bJ7 Tryz.func160 ?_
 repeat' first|refine sV ⟨?_⟩|refine sq (λh=>⟨?_⟩) λh=>⟨?_⟩|fail
 all_goals (conv=>whnf)
 all_goals rfl
theorem bC1 (f:FuncId){x y:Rat}(r:Rat) (hx:RS x) (hy:RS y) (h1:(dec r.num.natAbs).length<=100000) (h2:(dec r.den).length<=100000)
 (hf:aAc Tryz.prog GL f [aC2 x,aC2 y] (λv=>v= .tup [aC2 r,.nili])):aAc Tryz.prog GL 112 [.str (aAw x),.str (aAw y),.fn f []] (λv=>v= .tup [.str (aAw r),.int .i64 0]):=by
 have hr1:=aOg hx
 have hr2:=aOg hy
 have ht:=bVw r h1 h2
 refine vgo bJ3 Tryz.func112 ?_
 repeat' first|refine sV ⟨?_⟩|refine sq (λh=>⟨?_⟩) λh=>⟨?_⟩|fail
 all_goals (conv=>whnf)
 all_goals rfl
theorem aJ7 {m n k j:Nat}(hm:(dec m).length<=k) (hn:(dec n).length<=j):(dec (m*n)).length<=k+j:=by
 have:=List.length_pos_iff.2 (aEt m)
 have:=List.length_pos_iff.2 (aEt n)
 exact aV1 (by omega) (by omega) hm hn
theorem bDx (n:Int){d:Nat}(hd:d≠0){k:Nat}(hn:(dec n.natAbs).length<=k) (hdl:(dec d).length<=k):(dec (mkRat n d).num.natAbs).length<=k/\(dec (mkRat n d).den).length<=k:=by
 constructor
 · rw [Rat.num_mkRat,if_neg hd]
   refine Nat.le_trans (aBw ?_) hn
   rw [Int.natAbs_ediv_of_dvd (Int.ofNat_dvd_left.2 (Nat.gcd_dvd_right _ _)),Int.natAbs_natCast];exact Nat.div_le_self _ _
 · rw [Rat.den_mkRat,if_neg hd]
   exact Nat.le_trans (aBw (Nat.div_le_self _ _)) hdl
theorem aK0 {a b:Int}{k:Nat}(hk:0<k) (ha:(dec a.natAbs).length<=k) (hb:(dec b.natAbs).length<=k):(dec (a+b).natAbs).length<=k+1:=
 Nat.le_trans (aBw (Int.natAbs_add_le a b)) (aK7 hk ha hb)
theorem bCt {a b:Int}{k:Nat}(hk:0<k) (ha:(dec a.natAbs).length<=k) (hb:(dec b.natAbs).length<=k):(dec (a - b).natAbs).length<=k+1:=by
 rw [Int.sub_eq_add_neg];exact aK0 hk ha (by rw [Int.natAbs_neg];exact hb)
theorem aK1 {a b:Int}{k j:Nat}(ha:(dec a.natAbs).length<=k) (hb:(dec b.natAbs).length<=j):(dec (a*b).natAbs).length<=k+j:=by
 rw [Int.natAbs_mul];exact aJ7 ha hb
theorem aEb {a:Int}{n:Nat}{k j:Nat}(ha:(dec a.natAbs).length<=k) (hn:(dec n).length<=j):(dec (a*(n:Int)).natAbs).length<=k+j:=aK1 ha (by rw [Int.natAbs_natCast];exact hn)
theorem aY4 {x y:Rat}(hx:RS x) (hy:RS y):aAc Tryz.prog GL 184 [.str (aAw x),.str (aAw y)] (λv=>v= .tup [.str (aAw (x+y)),.int .i64 0]):=by
 have n1:=hx.num
 have n2:=hx.den
 have n3:=hy.num
 have n4:=hy.den
 have hd0:x.den*y.den≠0:=Nat.mul_ne_zero x.den_nz y.den_nz
 have hq:=aJ7 n2 n4
 have hp1:=aEb n1 n4
 have hp2:=aEb n3 n2
 have ht1:=aLt x.num y.den (by omega) (by omega)
 have ht2:=aLt y.num x.den (by omega) (by omega)
 have ht3:=aM2 x.den y.den (by omega) (by omega)
 have ha:=bZg GL (x.num*y.den) (y.num*x.den) (by omega) (by omega)
 have hs:=aK0 (by omega) hp1 hp2
 have hl:=bC2 (x.num*y.den+y.num*x.den) (x.den*y.den) hd0 (by omega) (by omega)
 have e:=bDx (x.num*y.den+y.num*x.den) hd0 hs (Nat.le_trans hq (by omega))
 rw [<- Rat.add_def'] at hl e
 have hf:aAc Tryz.prog GL 222 [aC2 x,aC2 y] (λv=>v= .tup [aC2 (x+y),.nili]):=by
  unfold aC2
  refine vgo bJz Tryz.func222 ?_
  repeat' first|refine sV ⟨?_⟩|refine sq (λh=>⟨?_⟩) λh=>⟨?_⟩|fail
  refine ⟨by decide +kernel,[0,1,0,4,15,0,32,0,128,511,1023,2047,4095,4095,8191,32767],by decide +kernel,?_⟩
  repeat' first|refine sV ⟨?_⟩|refine sq (λh=>⟨?_⟩) λh=>⟨?_⟩|fail
  all_goals (conv=>whnf)
  all_goals rfl
 have h:=bC1 222 (x+y) hx hy (by omega) (by omega) hf
 refine vgo bPv Tryz.func184 ?_
 repeat' first|refine sV ⟨?_⟩|refine sq (λh=>⟨?_⟩) λh=>⟨?_⟩|fail
 all_goals (conv=>whnf)
 all_goals rfl
theorem bLt {x y:Rat}(hx:RS x) (hy:RS y):aAc Tryz.prog GL 185 [.str (aAw x),.str (aAw y)] (λv=>v= .tup [.str (aAw (x - y)),.int .i64 0]):=by
 have n1:=hx.num
 have n2:=hx.den
 have n3:=hy.num
 have n4:=hy.den
 have hd0:x.den*y.den≠0:=Nat.mul_ne_zero x.den_nz y.den_nz
 have hq:=aJ7 n2 n4
 have hp1:=aEb n1 n4
 have hp2:=aEb n3 n2
 have ht1:=aLt x.num y.den (by omega) (by omega)
 have ht2:=aLt y.num x.den (by omega) (by omega)
 have ht3:=aM2 x.den y.den (by omega) (by omega)
 have ha:=bZj GL (x.num*y.den) (y.num*x.den) (by omega) (by omega)
 have hs:=bCt (by omega) hp1 hp2
 have hl:=bC2 (x.num*y.den - y.num*x.den) (x.den*y.den) hd0 (by omega) (by omega)
 have e:=bDx (x.num*y.den - y.num*x.den) hd0 hs (Nat.le_trans hq (by omega))
 rw [<- Rat.sub_def'] at hl e
 have hf:aAc Tryz.prog GL 224 [aC2 x,aC2 y] (λv=>v= .tup [aC2 (x - y),.nili]):=by
  unfold aC2
  refine vgo bJ2 Tryz.func224 ?_
  repeat' first|refine sV ⟨?_⟩|refine sq (λh=>⟨?_⟩) λh=>⟨?_⟩|fail
  refine ⟨by decide +kernel,[0,1,0,4,15,0,32,0,128,511,1023,2047,4095,4095,8191,32767],by decide +kernel,?_⟩
  repeat' first|refine sV ⟨?_⟩|refine sq (λh=>⟨?_⟩) λh=>⟨?_⟩|fail
  all_goals (conv=>whnf)
  all_goals rfl
 have h:=bC1 224 (x - y) hx hy (by omega) (by omega) hf
 refine vgo bPy Tryz.func185 ?_
 repeat' first|refine sV ⟨?_⟩|refine sq (λh=>⟨?_⟩) λh=>⟨?_⟩|fail
 all_goals (conv=>whnf)
 all_goals rfl
theorem aTs {x y:Rat}(hx:RS x) (hy:RS y):aAc Tryz.prog GL 61 [.str (aAw x),.str (aAw y)] (λv=>v= .tup [.str (aAw (x*y)),.int .i64 0]):=by
 have n1:=hx.num
 have n2:=hx.den
 have n3:=hy.num
 have n4:=hy.den
 have hd0:x.den*y.den≠0:=Nat.mul_ne_zero x.den_nz y.den_nz
 have hq:=aJ7 n2 n4
 have hp:=aK1 n1 n3
 have ht1:=aVo x.num y.num (by omega) (by omega)
 have ht3:=aM2 x.den y.den (by omega) (by omega)
 have hl:=bC2 (x.num*y.num) (x.den*y.den) hd0 (by omega) (by omega)
 have e:=bDx (x.num*y.num) hd0 hp hq
 rw [<- Rat.mul_def'] at hl e
 have hf:aAc Tryz.prog GL 113 [aC2 x,aC2 y] (λv=>v= .tup [aC2 (x*y),.nili]):=by
  unfold aC2
  refine vgo bJ0 Tryz.func113 ?_
  repeat' first|refine sV ⟨?_⟩|refine sq (λh=>⟨?_⟩) λh=>⟨?_⟩|fail
  refine ⟨by decide +kernel,[0,1,0,4,15,0,32,0,128,511,1023,2047,2047,8191,16383],by decide +kernel,?_⟩
  repeat' first|refine sV ⟨?_⟩|refine sq (λh=>⟨?_⟩) λh=>⟨?_⟩|fail
  all_goals (conv=>whnf)
  all_goals rfl
 have h:=bC1 113 (x*y) hx hy (by omega) (by omega) hf
 refine vgo bPw Tryz.func61 ?_
 repeat' first|refine sV ⟨?_⟩|refine sq (λh=>⟨?_⟩) λh=>⟨?_⟩|fail
 all_goals (conv=>whnf)
 all_goals rfl
theorem bZf {x:Rat}(hx:RS x):aAc Tryz.prog GL 259 [.str (aAw x)] (λv=>v= .tup [.str (aAw (-x)),.int .i64 0]):=by
 have h:=bLt aO6 hx
 rw [show (0:Rat) - x= -x by rw [Rat.sub_eq_add_neg,Rat.zero_add],aCz] at h
 refine vgo bPx Tryz.func259 ?_
 repeat' first|refine sV ⟨?_⟩|refine sq (λh=>⟨?_⟩) λh=>⟨?_⟩|fail
 all_goals (conv=>whnf)
 all_goals rfl
theorem aPs {x:Rat}(hx:RS x):aAc Tryz.prog GL 258 [.str (aAw x)] (λv=>v= .tup [.int .i64 (sg x.num),.int .i64 0]):=by
 have h:=aOg hx
 have h2:=bVx GL x.num (by have:=hx.num;omega)
 refine vgo bJ1 Tryz.func258 ?_
 repeat' first|refine sV ⟨?_⟩|refine sq (λh=>⟨?_⟩) λh=>⟨?_⟩|fail
 all_goals (conv=>whnf)
 all_goals rfl
theorem aTr {x y:Rat}(hx:RS x) (hy:RS y) (hd:RS (x - y)):aAc Tryz.prog GL 226 [.str (aAw x),.str (aAw y)] (λv=>v= .tup [.int .i64 (sg (x - y).num),.int .i64 0]):=by
 have h:=bLt hx hy
 have h2:=aPs hd
 refine vgo aX2 Tryz.func226 ?_
 repeat' first|refine sV ⟨?_⟩|refine sq (λh=>⟨?_⟩) λh=>⟨?_⟩|fail
 all_goals (conv=>whnf)
 all_goals rfl
set_option maxHeartbeats 1000000 in
theorem bRi {x:Rat}(n:Nat) (hn:n<=6) (hp:∀k,k<=n->RS (x ^ k)) (hx:RS x):aAc Tryz.prog GL 192 [.str (aAw x),.int .i64 (n:Nat)] (λv=>v= .tup [.str (aAw (x ^ n)),.int .i64 0]):=by
 have h:=aOg hx
 refine vgo bG0 Tryz.func192 ?_
 repeat' first|refine sV ⟨?_⟩|refine sq (λh=>⟨?_⟩) λh=>⟨?_⟩|fail
 refine ⟨[0,8,24,25],[],λk st=>∃i:Nat,i<=n/\k=n - i/\st=⟨[(0,.str (aAw x)),(8,.str (aAw (x ^ i))),(24,.int .i64 (n:Nat)),(25,.int .i64 (i:Nat))],[]⟩,rfl,
  ⟨n,0,by omega,rfl,Eq.trans rfl (congrArg (λz:ByteArray=>(⟨[(0,.str (aAw x)),(8,.str z),(24,.int .i64 (n:Nat)),(25,.int .i64 ((0:Nat):Int))],[]⟩:St)) (show (⟨#[49]⟩:ByteArray)=aAw (x ^ 0) by rw [Rat.pow_zero,aOw]))⟩,?_⟩
 rintro k _ ⟨i,hi,hk,rfl⟩
 rcases Nat.lt_or_ge i n with hil|hge
 · have hm:=aTs (hp i (by omega)) hx
   rw [<- Rat.pow_succ] at hm
   repeat' first|refine sV ⟨?_⟩|refine sq (λh=>⟨?_⟩) λh=>⟨?_⟩|fail
   all_goals exact ⟨[],n - (i+1),rfl,by omega,i+1,by omega,rfl,rfl⟩
 · obtain rfl:i=n:=by omega
   repeat' first|refine sV ⟨?_⟩|refine sq (λh=>⟨?_⟩) λh=>⟨?_⟩|fail
   all_goals (conv=>whnf)
   all_goals rfl
end Go.V
namespace Go.V
open Go.N Go.Proofs
set_option maxRecDepth 20000
def bQ3:Tab:=[(40,i40),(27,i27),(3,i3),(32,i32),(9,i9),(92,i92),(4,i4)]
theorem aJy:TOK Tryz.prog bQ3:=⟨K40,⟨K27,⟨K3,⟨K32,⟨K9,⟨K92,⟨K4,trivial⟩⟩⟩⟩⟩⟩⟩
def bLh:Tab:=[(9,i9),(4,i4)]
theorem bB4:TOK Tryz.prog bLh:=⟨K9,⟨K4,trivial⟩⟩
def bVn:Tab:=[(40,i40),(27,i27),(3,i3),(32,i32),(9,i9),(28,i28)]
theorem aYi:TOK Tryz.prog bVn:=⟨K40,⟨K27,⟨K3,⟨K32,⟨K9,⟨K28,trivial⟩⟩⟩⟩⟩⟩
def bQ4:Tab:=[(40,i40),(9,i9),(4,i4),(95,i95)]
theorem bHg:TOK Tryz.prog bQ4:=⟨K40,⟨K9,⟨K4,⟨K95,trivial⟩⟩⟩⟩
def bLi:Tab:=[(9,i9)]
theorem bB5:TOK Tryz.prog bLi:=⟨K9,trivial⟩
def bQ2:Tab:=[(40,i40),(3,i3),(4,i4),(95,i95)]
theorem bHf:TOK Tryz.prog bQ2:=⟨K40,⟨K3,⟨K4,⟨K95,trivial⟩⟩⟩⟩
def bLg:Tab:=[(3,i3),(9,i9)]
theorem bB3:TOK Tryz.prog bLg:=⟨K3,⟨K9,trivial⟩⟩
def bY7:Tab:=[(40,i40),(4,i4),(32,i32),(9,i9),(3,i3)]
theorem bP9:TOK Tryz.prog bY7:=⟨K40,⟨K4,⟨K32,⟨K9,⟨K3,trivial⟩⟩⟩⟩⟩
structure VT (s:List Int) (v:List Rat):Prop where
 ok:aAl s=true
 len:(v.length:Int)=aA8 s
 rs:∀x∈v,RS x
theorem VT.sl {s:List Int}{v:List Rat}(h:VT s v):s.length<=4:=aBg h.ok
theorem VT.vl {s:List Int}{v:List Rat}(h:VT s v):1<=v.length/\v.length<=64:=by
 have h1:=aD8 h.ok s.length
 rw [List.take_length,<-h.len] at h1
 omega
def aEv (s:List Int) (l:List ByteArray):AV:=.agg [.ro 1 (aAh s),.ro 1 (aCm l)]
def aAs (s:List Int) (v:List Rat):AV:=.agg [.ro 1 (aAh s),.ro 1 (aAj v)]
def okT (s:List Int) (l:List ByteArray):Bool:=aAl s && (decide ((l.length:Int)=aDj s) && !(l.any λx=> !aBa x))
theorem bMj (s:ByteArray) (hs:s.size<190000):aAc Tryz.prog GL 110 [.str s] (λx=>x= .bool (!aBa s)):=by
 have hr:=aLs s hs
 refine vgo bB4 Tryz.func110 ?_
 repeat' first|refine sV ⟨?_⟩|refine sq (λh=>⟨?_⟩) λh=>⟨?_⟩|fail
 all_goals (conv=>whnf)
 all_goals rfl
theorem bE3 (s:List Int) (l:List ByteArray) (hsl:s.length<=1000) (hl:l.length<=1000) (hs:∀x∈l,x.size<190000):aAc Tryz.prog GL 57 [aEv s l] (λx=>x= .bool (okT s l)):=by
 have h1:=aCb GL s (by omega)
 have h2:=aE8 GL s (by omega)
 have h3:=aIy GL 110 l (λx=> !aBa x) (by omega) (λx hx=>bMj x (hs x hx))
 have hlr:=rowS_length l
 unfold aEv
 cases ho:aAl s
 · have e:okT s l=false:=by rw [okT,ho];rfl
   rw [ho] at h1
   rw [e]
   refine vgo aJy Tryz.func57 ?_
   repeat' first|refine sV ⟨?_⟩|refine sq (λh=>⟨?_⟩) λh=>⟨?_⟩|fail
   refine ⟨by decide +kernel,[0,1,3,7,15,31,63,15,143,399,1023,2047,4095,8191,16383,32767,65535,131071,262143],by decide +kernel,?_⟩
   repeat' first|refine sV ⟨?_⟩|refine sq (λh=>⟨?_⟩) λh=>⟨?_⟩|fail
   all_goals (conv=>whnf)
   all_goals rfl
 · rw [ho] at h1
   by_cases hz:(l.length:Int)=aDj s
   · have e:okT s l= !(l.any λx=> !aBa x):=by rw [okT,ho,decide_eq_true hz];rfl
     rw [e]
     generalize (l.any λx=> !aBa x)=b at h3
     cases b
     · refine vgo aJy Tryz.func57 ?_
       repeat' first|refine sV ⟨?_⟩|refine sq (λh=>⟨?_⟩) λh=>⟨?_⟩|fail
       refine ⟨by decide +kernel,[0,1,3,7,15,31,63,15,143,399,1023,2047,4095,8191,16383,32767,65535,131071,262143],by decide +kernel,?_⟩
       repeat' first|refine sV ⟨?_⟩|refine sq (λh=>⟨?_⟩) λh=>⟨?_⟩|fail
       all_goals (conv=>whnf)
       all_goals rfl
     · refine vgo aJy Tryz.func57 ?_
       repeat' first|refine sV ⟨?_⟩|refine sq (λh=>⟨?_⟩) λh=>⟨?_⟩|fail
       refine ⟨by decide +kernel,[0,1,3,7,15,31,63,15,143,399,1023,2047,4095,8191,16383,32767,65535,131071,262143],by decide +kernel,?_⟩
       repeat' first|refine sV ⟨?_⟩|refine sq (λh=>⟨?_⟩) λh=>⟨?_⟩|fail
       all_goals (conv=>whnf)
       all_goals rfl
   · have e:okT s l=false:=by rw [okT,ho,decide_eq_false hz];rfl
     rw [e]
     refine vgo aJy Tryz.func57 ?_
     repeat' first|refine sV ⟨?_⟩|refine sq (λh=>⟨?_⟩) λh=>⟨?_⟩|fail
     refine ⟨by decide +kernel,[0,1,3,7,15,31,63,15,143,399,1023,2047,4095,8191,16383,32767,65535,131071,262143],by decide +kernel,?_⟩
     repeat' first|refine sV ⟨?_⟩|refine sq (λh=>⟨?_⟩) λh=>⟨?_⟩|fail
     all_goals (conv=>whnf)
     all_goals rfl
theorem bXd {s:List Int}{v:List Rat}(h1:aAl s=true) (h2:(v.length:Int)=aA8 s):okT s (v.map aAw)=true:=by
 rw [okT,h1,aDj,if_pos h1,List.length_map,decide_eq_true h2]
 simp only [Bool.true_and,Bool.not_eq_true',List.any_eq_false,List.mem_map]
 rintro x ⟨y,_,rfl⟩
 simp [(aE2 y).1]
theorem aBp {s:List Int}{v:List Rat}(h:VT s v):aAc Tryz.prog GL 57 [aAs s v] (λx=>x= .bool true):=by
 have hc:=bE3 s (v.map aAw) (by have:=h.sl;omega) (by rw [List.length_map];have:=h.vl;omega) (λx hx=>by
  obtain ⟨y,hy,rfl⟩:=List.mem_map.1 hx
  have:=(h.rs y hy).size;omega)
 rw [bXd h.ok h.len] at hc
 exact hc
theorem aEq {v:List Rat}{k:Nat}(h:k<v.length):(aAj v)[k]? =some [.str (aAw v[k])]:=by simp [aAj,aCm,h]
theorem aDe {r:List Rat}{i:Nat}(h:i<r.length):aAj (r.take (i+1))=List.take (aAj (r.take i)).length (aAj (r.take i))++[[.str (aAw r[i])]]:=by
 rw [List.take_length,List.take_succ_eq_append_getElem h];unfold aAj aCm;rw [List.map_append,List.map_append];rfl
theorem aD6 {r:List Rat}(h:0<r.length):aAj (r.take 1)=[[.str (aAw r[0])]]:=by
 rw [List.take_succ_eq_append_getElem h];simp [aAj,aCm]
def TF (s:List Int) (v:List Rat) (x:AV):Prop:=x= .agg [.fr 3 1 (aAh s),.fr 9 1 (aAj v)]\/(s=[]/\x= .agg [.nils,.fr 9 1 (aAj v)])
set_option maxHeartbeats 1000000 in
theorem bE4 (f:FuncId) (a:List AV) (s:List Int) (v r:List Rat) (hs:s.length<=1000) (hv:1<=v.length/\v.length<=1000) (hr:r.length=v.length)
 (hc:∀i (h:i<v.length),aAc Tryz.prog GL f [.int .i64 (i:Nat),.str (aAw v[i]),.rp a] (λy=>y= .tup [.str (aAw (r[i]'(by omega))),.int .i64 0])):
 aAc Tryz.prog GL 59 [aAs s v,.fn f [.rp a]] (λy=>∃x,TF s r x/\y= .tup [x,.int .i64 0]):=by
 have hvl:=aAg v
 have hcl:=aVn GL s (by omega)
 refine vgo aYi Tryz.func59 ?_
 repeat' first|refine sV ⟨?_⟩|refine sq (λh=>⟨?_⟩) λh=>⟨?_⟩|fail
 conv=>whnf
 rintro _ (rfl|⟨hs0,rfl⟩)
 · repeat' first|refine sV ⟨?_⟩|refine sq (λh=>⟨?_⟩) λh=>⟨?_⟩|fail
   refine ⟨[1,2,4,6,16,17,18],[0,1,3,2],λm st=>∃i:Nat,i<=v.length/\m=v.length - i/\
    ((i=0/\st=⟨[(1,.fn f [.rp a]),(2,.bptr 0 0),(4,.bptr 1 0),(6,.bptr 2 0),(16,.ro 1 (aAj v)),(17,.int .i64 ((aAj v).length:Nat)),(18,.int .i64 (i:Nat))],
      [.box 40 [.ro 1 (aAh s),.ro 1 (aAj v)],.box 40 [.nils,.nils],.box 40 [.own 3 0 (aAh s).length,.nils],.row false 3 1 (aAh s)]⟩)\/
    (0<i/\st=⟨[(1,.fn f [.rp a]),(2,.bptr 0 0),(4,.bptr 1 0),(6,.bptr 2 0),(16,.ro 1 (aAj v)),(17,.int .i64 ((aAj v).length:Nat)),(18,.int .i64 (i:Nat))],
      [.box 40 [.ro 1 (aAh s),.ro 1 (aAj v)],.box 40 [.nils,.nils],.box 40 [.own 3 0 (aAh s).length,.own 4 0 (aAj (r.take i)).length],.row false 3 1 (aAh s),.row false 9 1 (aAj (r.take i))]⟩)),rfl,⟨v.length,0,by omega,rfl,.inl ⟨rfl,rfl⟩⟩,?_⟩
   rintro m _ ⟨i,hi,hm,hst⟩
   have hol:(aAj (r.take i)).length=i:=by rw [aAg,List.length_take];omega
   rcases Nat.lt_or_ge i v.length with hil|hge
   · have g:(aAj v)[i]? =some [.str (aAw v[i])]:=aEq hil
     have hci:=hc i hil
     rcases hst with ⟨rfl,rfl⟩|⟨h0,rfl⟩
     · repeat' first|refine sV ⟨?_⟩|refine sq (λh=>⟨?_⟩) λh=>⟨?_⟩|fail
       conv=>whnf
       refine ⟨Nat.le_of_ble_eq_true rfl,λh=>Nat.succ_ne_zero _ (congrArg List.length h),?_⟩
       repeat' first|refine sV ⟨?_⟩|refine sq (λh=>⟨?_⟩) λh=>⟨?_⟩|fail
       refine ⟨[0,1,2,3,5],v.length - (0+1),rfl,by omega,0+1,by omega,rfl,.inr ⟨by omega,?_⟩⟩
       exact Eq.trans rfl (congrArg (λz:List (List AV)=>(⟨[(1,.fn f [.rp a]),(2,.bptr 0 0),(4,.bptr 1 0),(6,.bptr 2 0),(16,.ro 1 (aAj v)),(17,.int .i64 ((aAj v).length:Nat)),(18,.int .i64 ((0+1:Nat):Int))],
        [.box 40 [.ro 1 (aAh s),.ro 1 (aAj v)],.box 40 [.nils,.nils],.box 40 [.own 3 0 (aAh s).length,.own 4 0 z.length],.row false 3 1 (aAh s),.row false 9 1 z]⟩:St)) (aD6 (by omega)).symm)
     · repeat' first|refine sV ⟨?_⟩|refine sq (λh=>⟨?_⟩) λh=>⟨?_⟩|fail
       refine ⟨Nat.le_refl _,(show ((aAj (r.take i)).length+1)*16<=140737488355328 by omega),_,aDe (by omega),?_⟩
       repeat' first|refine sV ⟨?_⟩|refine sq (λh=>⟨?_⟩) λh=>⟨?_⟩|fail
       all_goals exact ⟨[0,1,2,3,6],v.length - (i+1),rfl,by omega,i+1,by omega,rfl,.inr ⟨by omega,rfl⟩⟩
   · rcases hst with ⟨rfl,rfl⟩|⟨h0,rfl⟩
     · exact absurd hge (by omega)
     · repeat' first|refine sV ⟨?_⟩|refine sq (λh=>⟨?_⟩) λh=>⟨?_⟩|fail
       conv=>whnf
       have e:r.take i=r:=List.take_of_length_le (by omega)
       rw [e]
       exact ⟨_,.inl rfl,rfl⟩
 · repeat' first|refine sV ⟨?_⟩|refine sq (λh=>⟨?_⟩) λh=>⟨?_⟩|fail
   refine ⟨[1,2,4,6,16,17,18],[0,1,2],λm st=>∃i:Nat,i<=v.length/\m=v.length - i/\
    ((i=0/\st=⟨[(1,.fn f [.rp a]),(2,.bptr 0 0),(4,.bptr 1 0),(6,.bptr 2 0),(16,.ro 1 (aAj v)),(17,.int .i64 ((aAj v).length:Nat)),(18,.int .i64 (i:Nat))],
      [.box 40 [.ro 1 (aAh s),.ro 1 (aAj v)],.box 40 [.nils,.nils],.box 40 [.nils,.nils]]⟩)\/
    (0<i/\st=⟨[(1,.fn f [.rp a]),(2,.bptr 0 0),(4,.bptr 1 0),(6,.bptr 2 0),(16,.ro 1 (aAj v)),(17,.int .i64 ((aAj v).length:Nat)),(18,.int .i64 (i:Nat))],
      [.box 40 [.ro 1 (aAh s),.ro 1 (aAj v)],.box 40 [.nils,.nils],.box 40 [.nils,.own 3 0 (aAj (r.take i)).length],.row false 9 1 (aAj (r.take i))]⟩)),rfl,⟨v.length,0,by omega,rfl,.inl ⟨rfl,rfl⟩⟩,?_⟩
   rintro m _ ⟨i,hi,hm,hst⟩
   have hol:(aAj (r.take i)).length=i:=by rw [aAg,List.length_take];omega
   rcases Nat.lt_or_ge i v.length with hil|hge
   · have g:(aAj v)[i]? =some [.str (aAw v[i])]:=aEq hil
     have hci:=hc i hil
     rcases hst with ⟨rfl,rfl⟩|⟨h0,rfl⟩
     · repeat' first|refine sV ⟨?_⟩|refine sq (λh=>⟨?_⟩) λh=>⟨?_⟩|fail
       conv=>whnf
       refine ⟨Nat.le_of_ble_eq_true rfl,λh=>Nat.succ_ne_zero _ (congrArg List.length h),?_⟩
       repeat' first|refine sV ⟨?_⟩|refine sq (λh=>⟨?_⟩) λh=>⟨?_⟩|fail
       refine ⟨[0,1,2,4],v.length - (0+1),rfl,by omega,0+1,by omega,rfl,.inr ⟨by omega,?_⟩⟩
       exact Eq.trans rfl (congrArg (λz:List (List AV)=>(⟨[(1,.fn f [.rp a]),(2,.bptr 0 0),(4,.bptr 1 0),(6,.bptr 2 0),(16,.ro 1 (aAj v)),(17,.int .i64 ((aAj v).length:Nat)),(18,.int .i64 ((0+1:Nat):Int))],
        [.box 40 [.ro 1 (aAh s),.ro 1 (aAj v)],.box 40 [.nils,.nils],.box 40 [.nils,.own 3 0 z.length],.row false 9 1 z]⟩:St)) (aD6 (by omega)).symm)
     · repeat' first|refine sV ⟨?_⟩|refine sq (λh=>⟨?_⟩) λh=>⟨?_⟩|fail
       refine ⟨Nat.le_refl _,(show ((aAj (r.take i)).length+1)*16<=140737488355328 by omega),_,aDe (by omega),?_⟩
       repeat' first|refine sV ⟨?_⟩|refine sq (λh=>⟨?_⟩) λh=>⟨?_⟩|fail
       all_goals exact ⟨[0,1,2,5],v.length - (i+1),rfl,by omega,i+1,by omega,rfl,.inr ⟨by omega,rfl⟩⟩
   · rcases hst with ⟨rfl,rfl⟩|⟨h0,rfl⟩
     · exact absurd hge (by omega)
     · repeat' first|refine sV ⟨?_⟩|refine sq (λh=>⟨?_⟩) λh=>⟨?_⟩|fail
       conv=>whnf
       have e:r.take i=r:=List.take_of_length_le (by omega)
       rw [e]
       exact ⟨_,.inr ⟨hs0,rfl⟩,rfl⟩
set_option maxHeartbeats 1000000 in
theorem aVx (f:FuncId) (a b:List AV) (s:List Int) (v r:List Rat) (hs:s.length<=1000) (hv:1<=v.length/\v.length<=1000) (hr:r.length=v.length)
 (hc:∀i (h:i<v.length),aAc Tryz.prog GL f [.int .i64 (i:Nat),.str (aAw v[i]),.rp a,.rp b] (λy=>y= .tup [.str (aAw (r[i]'(by omega))),.int .i64 0])):
 aAc Tryz.prog GL 59 [aAs s v,.fn f [.rp a,.rp b]] (λy=>∃x,TF s r x/\y= .tup [x,.int .i64 0]):=by
 have hvl:=aAg v
 have hcl:=aVn GL s (by omega)
 refine vgo aYi Tryz.func59 ?_
 repeat' first|refine sV ⟨?_⟩|refine sq (λh=>⟨?_⟩) λh=>⟨?_⟩|fail
 conv=>whnf
 rintro _ (rfl|⟨hs0,rfl⟩)
 · repeat' first|refine sV ⟨?_⟩|refine sq (λh=>⟨?_⟩) λh=>⟨?_⟩|fail
   refine ⟨[1,2,4,6,16,17,18],[0,1,3,2],λm st=>∃i:Nat,i<=v.length/\m=v.length - i/\
    ((i=0/\st=⟨[(1,.fn f [.rp a,.rp b]),(2,.bptr 0 0),(4,.bptr 1 0),(6,.bptr 2 0),(16,.ro 1 (aAj v)),(17,.int .i64 ((aAj v).length:Nat)),(18,.int .i64 (i:Nat))],
      [.box 40 [.ro 1 (aAh s),.ro 1 (aAj v)],.box 40 [.nils,.nils],.box 40 [.own 3 0 (aAh s).length,.nils],.row false 3 1 (aAh s)]⟩)\/
    (0<i/\st=⟨[(1,.fn f [.rp a,.rp b]),(2,.bptr 0 0),(4,.bptr 1 0),(6,.bptr 2 0),(16,.ro 1 (aAj v)),(17,.int .i64 ((aAj v).length:Nat)),(18,.int .i64 (i:Nat))],
      [.box 40 [.ro 1 (aAh s),.ro 1 (aAj v)],.box 40 [.nils,.nils],.box 40 [.own 3 0 (aAh s).length,.own 4 0 (aAj (r.take i)).length],.row false 3 1 (aAh s),.row false 9 1 (aAj (r.take i))]⟩)),rfl,⟨v.length,0,by omega,rfl,.inl ⟨rfl,rfl⟩⟩,?_⟩
   rintro m _ ⟨i,hi,hm,hst⟩
   have hol:(aAj (r.take i)).length=i:=by rw [aAg,List.length_take];omega
   rcases Nat.lt_or_ge i v.length with hil|hge
   · have g:(aAj v)[i]? =some [.str (aAw v[i])]:=aEq hil
     have hci:=hc i hil
     rcases hst with ⟨rfl,rfl⟩|⟨h0,rfl⟩
     · repeat' first|refine sV ⟨?_⟩|refine sq (λh=>⟨?_⟩) λh=>⟨?_⟩|fail
       conv=>whnf
       refine ⟨Nat.le_of_ble_eq_true rfl,λh=>Nat.succ_ne_zero _ (congrArg List.length h),?_⟩
       repeat' first|refine sV ⟨?_⟩|refine sq (λh=>⟨?_⟩) λh=>⟨?_⟩|fail
       refine ⟨[0,1,2,3,5],v.length - (0+1),rfl,by omega,0+1,by omega,rfl,.inr ⟨by omega,?_⟩⟩
       exact Eq.trans rfl (congrArg (λz:List (List AV)=>(⟨[(1,.fn f [.rp a,.rp b]),(2,.bptr 0 0),(4,.bptr 1 0),(6,.bptr 2 0),(16,.ro 1 (aAj v)),(17,.int .i64 ((aAj v).length:Nat)),(18,.int .i64 ((0+1:Nat):Int))],
        [.box 40 [.ro 1 (aAh s),.ro 1 (aAj v)],.box 40 [.nils,.nils],.box 40 [.own 3 0 (aAh s).length,.own 4 0 z.length],.row false 3 1 (aAh s),.row false 9 1 z]⟩:St)) (aD6 (by omega)).symm)
     · repeat' first|refine sV ⟨?_⟩|refine sq (λh=>⟨?_⟩) λh=>⟨?_⟩|fail
       refine ⟨Nat.le_refl _,(show ((aAj (r.take i)).length+1)*16<=140737488355328 by omega),_,aDe (by omega),?_⟩
       repeat' first|refine sV ⟨?_⟩|refine sq (λh=>⟨?_⟩) λh=>⟨?_⟩|fail
       all_goals exact ⟨[0,1,2,3,6],v.length - (i+1),rfl,by omega,i+1,by omega,rfl,.inr ⟨by omega,rfl⟩⟩
   · rcases hst with ⟨rfl,rfl⟩|⟨h0,rfl⟩
     · exact absurd hge (by omega)
     · repeat' first|refine sV ⟨?_⟩|refine sq (λh=>⟨?_⟩) λh=>⟨?_⟩|fail
       conv=>whnf
       have e:r.take i=r:=List.take_of_length_le (by omega)
       rw [e]
       exact ⟨_,.inl rfl,rfl⟩
 · repeat' first|refine sV ⟨?_⟩|refine sq (λh=>⟨?_⟩) λh=>⟨?_⟩|fail
   refine ⟨[1,2,4,6,16,17,18],[0,1,2],λm st=>∃i:Nat,i<=v.length/\m=v.length - i/\
    ((i=0/\st=⟨[(1,.fn f [.rp a,.rp b]),(2,.bptr 0 0),(4,.bptr 1 0),(6,.bptr 2 0),(16,.ro 1 (aAj v)),(17,.int .i64 ((aAj v).length:Nat)),(18,.int .i64 (i:Nat))],
      [.box 40 [.ro 1 (aAh s),.ro 1 (aAj v)],.box 40 [.nils,.nils],.box 40 [.nils,.nils]]⟩)\/
    (0<i/\st=⟨[(1,.fn f [.rp a,.rp b]),(2,.bptr 0 0),(4,.bptr 1 0),(6,.bptr 2 0),(16,.ro 1 (aAj v)),(17,.int .i64 ((aAj v).length:Nat)),(18,.int .i64 (i:Nat))],
      [.box 40 [.ro 1 (aAh s),.ro 1 (aAj v)],.box 40 [.nils,.nils],.box 40 [.nils,.own 3 0 (aAj (r.take i)).length],.row false 9 1 (aAj (r.take i))]⟩)),rfl,⟨v.length,0,by omega,rfl,.inl ⟨rfl,rfl⟩⟩,?_⟩
   rintro m _ ⟨i,hi,hm,hst⟩
   have hol:(aAj (r.take i)).length=i:=by rw [aAg,List.length_take];omega
   rcases Nat.lt_or_ge i v.length with hil|hge
   · have g:(aAj v)[i]? =some [.str (aAw v[i])]:=aEq hil
     have hci:=hc i hil
     rcases hst with ⟨rfl,rfl⟩|⟨h0,rfl⟩
     · repeat' first|refine sV ⟨?_⟩|refine sq (λh=>⟨?_⟩) λh=>⟨?_⟩|fail
       conv=>whnf
       refine ⟨Nat.le_of_ble_eq_true rfl,λh=>Nat.succ_ne_zero _ (congrArg List.length h),?_⟩
       repeat' first|refine sV ⟨?_⟩|refine sq (λh=>⟨?_⟩) λh=>⟨?_⟩|fail
       refine ⟨[0,1,2,4],v.length - (0+1),rfl,by omega,0+1,by omega,rfl,.inr ⟨by omega,?_⟩⟩
       exact Eq.trans rfl (congrArg (λz:List (List AV)=>(⟨[(1,.fn f [.rp a,.rp b]),(2,.bptr 0 0),(4,.bptr 1 0),(6,.bptr 2 0),(16,.ro 1 (aAj v)),(17,.int .i64 ((aAj v).length:Nat)),(18,.int .i64 ((0+1:Nat):Int))],
        [.box 40 [.ro 1 (aAh s),.ro 1 (aAj v)],.box 40 [.nils,.nils],.box 40 [.nils,.own 3 0 z.length],.row false 9 1 z]⟩:St)) (aD6 (by omega)).symm)
     · repeat' first|refine sV ⟨?_⟩|refine sq (λh=>⟨?_⟩) λh=>⟨?_⟩|fail
       refine ⟨Nat.le_refl _,(show ((aAj (r.take i)).length+1)*16<=140737488355328 by omega),_,aDe (by omega),?_⟩
       repeat' first|refine sV ⟨?_⟩|refine sq (λh=>⟨?_⟩) λh=>⟨?_⟩|fail
       all_goals exact ⟨[0,1,2,5],v.length - (i+1),rfl,by omega,i+1,by omega,rfl,.inr ⟨by omega,rfl⟩⟩
   · rcases hst with ⟨rfl,rfl⟩|⟨h0,rfl⟩
     · exact absurd hge (by omega)
     · repeat' first|refine sV ⟨?_⟩|refine sq (λh=>⟨?_⟩) λh=>⟨?_⟩|fail
       conv=>whnf
       have e:r.take i=r:=List.take_of_length_le (by omega)
       rw [e]
       exact ⟨_,.inr ⟨hs0,rfl⟩,rfl⟩
theorem aZs {e sz:Nat}(v:List Rat):aIr (.fr e sz (aAj v)):=by
 simp only [aIr,aAj,aCm,List.mem_map]
 rintro cs ⟨x,_,rfl⟩
 simp [aH3,aIr]
theorem bM5 {e sz:Nat}(l:List Int):aIr (.fr e sz (aAh l)):=by
 simp only [aIr,aAh,List.mem_map]
 rintro cs ⟨x,_,rfl⟩
 simp [aH3,aIr]
theorem aQi {s:List Int}{v:List Rat}{x:AV}(h:TF s v x):aIr (.tup [x,.int .i64 0]):=by
 rcases h with rfl|⟨_,rfl⟩
 · have h1:=bM5 (e:=3) (sz:=1) s
   have h2:=aZs (e:=9) (sz:=1) v
   simp only [aIr,aH3] at h1 h2 ⊢;exact ⟨⟨h1,h2,trivial⟩,trivial,trivial⟩
 · have h2:=aZs (e:=9) (sz:=1) v
   simp only [aIr,aH3] at h2 ⊢;exact ⟨⟨trivial,h2,trivial⟩,trivial,trivial⟩
theorem bMk (i:Int){x k:Rat}(hx:RS x) (hk:RS k):aAc Tryz.prog GL 60 [.int .i64 i,.str (aAw x),.rp [.str (aAw k)]] (λy=>y= .tup [.str (aAw (x*k)),.int .i64 0]):=by
 have h:=aTs hx hk
 refine vgo bB5 Tryz.func60 ?_
 repeat' first|refine sV ⟨?_⟩|refine sq (λh=>⟨?_⟩) λh=>⟨?_⟩|fail
 all_goals (conv=>whnf)
 all_goals rfl
theorem aY5 {k:Rat}(hk:RS k):aAc Tryz.prog GL 58 [.str (aAw k)] (λx=>x= .bool true):=by
 have h:=aLs (aAw k) (by have:=hk.size;omega)
 rwa [(aE2 k).1] at h
theorem bRy {s:List Int}{v:List Rat}{k:Rat}(h:VT s v) (hk:RS k):aAc Tryz.prog GL 27 [aAs s v,.str (aAw k)] (λy=>y= .tup [aAs s (v.map λx=>x*k),.int .i64 0]):=by
 have h1:=aBp h
 have h2:=aY5 hk
 have h4:=bE4 60 [.str (aAw k)] s v (v.map λx=>x*k) (by have:=h.sl;omega) (by have:=h.vl;omega) (by simp)
  (λi hi=>by rw [List.getElem_map];exact bMk _ (h.rs _ (List.getElem_mem hi)) hk)
 refine aAc.taken ?_
 refine vgo bHg Tryz.func27 ?_
 repeat' first|refine sV ⟨?_⟩|refine sq (λh=>⟨?_⟩) λh=>⟨?_⟩|fail
 conv=>whnf
 rintro _ ⟨z,hz,rfl⟩
 have hfl:=aQi hz
 rcases hz with rfl|⟨hs0,rfl⟩
 · conv=>whnf
   refine ⟨false,hfl,?_⟩
   repeat' first|refine sV ⟨?_⟩|refine sq (λh=>⟨?_⟩) λh=>⟨?_⟩|fail
   conv=>whnf
   exact ⟨_,aAf (aFo rfl rfl) rfl,rfl⟩
 · conv=>whnf
   refine ⟨false,hfl,?_⟩
   repeat' first|refine sV ⟨?_⟩|refine sq (λh=>⟨?_⟩) λh=>⟨?_⟩|fail
   conv=>whnf
   exact ⟨_,aAf (aFo (show aC7 .nils (.ro 1 (aAh s)) from ⟨1,by rw [hs0];rfl⟩) rfl) rfl,rfl⟩
theorem bMi (i:Int){x:Rat}(n:Nat) (hn:n<=6) (hx:RS x) (hp:∀k,k<=n->RS (x ^ k)):aAc Tryz.prog GL 191 [.int .i64 i,.str (aAw x),.rp [.int .i64 (n:Nat)]] (λy=>y= .tup [.str (aAw (x ^ n)),.int .i64 0]):=by
 have h:=bRi n hn hp hx
 refine vgo bB3 Tryz.func191 ?_
 repeat' first|refine sV ⟨?_⟩|refine sq (λh=>⟨?_⟩) λh=>⟨?_⟩|fail
 all_goals (conv=>whnf)
 all_goals rfl
theorem bRx {s:List Int}{v:List Rat}(n:Nat) (hn:n<=6) (h:VT s v) (hp:∀x∈v,∀k,k<=n->RS (x ^ k)):aAc Tryz.prog GL 149 [aAs s v,.int .i64 (n:Nat)] (λy=>y= .tup [aAs s (v.map λx=>x ^ n),.int .i64 0]):=by
 have h1:=aBp h
 have h4:=bE4 191 [.int .i64 (n:Nat)] s v (v.map λx=>x ^ n) (by have:=h.sl;omega) (by have:=h.vl;omega) (by simp)
  (λi hi=>by rw [List.getElem_map];exact bMi _ n hn (h.rs _ (List.getElem_mem hi)) (hp _ (List.getElem_mem hi)))
 refine aAc.taken ?_
 refine vgo bHf Tryz.func149 ?_
 repeat' first|refine sV ⟨?_⟩|refine sq (λh=>⟨?_⟩) λh=>⟨?_⟩|fail
 conv=>whnf
 rintro _ ⟨z,hz,rfl⟩
 have hfl:=aQi hz
 rcases hz with rfl|⟨hs0,rfl⟩
 · conv=>whnf
   refine ⟨false,hfl,?_⟩
   repeat' first|refine sV ⟨?_⟩|refine sq (λh=>⟨?_⟩) λh=>⟨?_⟩|fail
   conv=>whnf
   exact ⟨_,aAf (aFo rfl rfl) rfl,rfl⟩
 · conv=>whnf
   refine ⟨false,hfl,?_⟩
   repeat' first|refine sV ⟨?_⟩|refine sq (λh=>⟨?_⟩) λh=>⟨?_⟩|fail
   conv=>whnf
   exact ⟨_,aAf (aFo (show aC7 .nils (.ro 1 (aAh s)) from ⟨1,by rw [hs0];rfl⟩) rfl) rfl,rfl⟩
set_option maxHeartbeats 1000000 in
theorem bZr {s:List Int}{v:List Rat}(h:VT s v) (hs:∀k,k<=v.length->RS (aEf (v.take k))):aAc Tryz.prog GL 193 [aAs s v] (λy=>y= .tup [.str (aAw (aEf v)),.int .i64 0]):=by
 have h1:=aBp h
 have hvl:=aAg v
 have hv:=h.vl
 have hrs:=h.rs
 unfold aAs at h1 ⊢
 refine vgo bP9 Tryz.func193 ?_
 repeat' first|refine sV ⟨?_⟩|refine sq (λh=>⟨?_⟩) λh=>⟨?_⟩|fail
 refine ⟨[4,11,12,13],[],λm st=>∃i:Nat,i<=v.length/\m=v.length - i/\st=⟨[(4,.str (aAw (aEf (v.take i)))),(11,.ro 1 (aAj v)),(12,.int .i64 ((aAj v).length:Nat)),(13,.int .i64 (i:Nat))],[]⟩,rfl,
  ⟨v.length,0,by omega,rfl,Eq.trans rfl (congrArg (λz:ByteArray=>(⟨[(4,.str z),(11,.ro 1 (aAj v)),(12,.int .i64 ((aAj v).length:Nat)),(13,.int .i64 ((0:Nat):Int))],[]⟩:St)) (show (⟨#[48]⟩:ByteArray)=aAw (aEf (v.take 0)) by rw [List.take_zero,aEr,aCz]))⟩,?_⟩
 rintro m _ ⟨i,hi,hm,rfl⟩
 rcases Nat.lt_or_ge i v.length with hil|hge
 · have g:(aAj v)[i]? =some [.str (aAw v[i])]:=aEq hil
   have ha:=aY4 (hs i hi) (hrs v[i] (List.getElem_mem hil))
   rw [<- aDt hil] at ha
   repeat' first|refine sV ⟨?_⟩|refine sq (λh=>⟨?_⟩) λh=>⟨?_⟩|fail
   all_goals exact ⟨[],v.length - (i+1),rfl,by omega,i+1,by omega,rfl,rfl⟩
 · have e:v.take i=v:=List.take_of_length_le (by omega)
   rw [e]
   repeat' first|refine sV ⟨?_⟩|refine sq (λh=>⟨?_⟩) λh=>⟨?_⟩|fail
   all_goals (conv=>whnf)
   all_goals rfl
end Go.V
namespace Go.V
open Go.N Go.Proofs
set_option maxRecDepth 20000
def bY2:Tab:=[(9,i9),(217,cW8),(3,i3),(32,i32)]
theorem aD2:TOK Tryz.prog bY2:=⟨K9,⟨cXj,⟨K3,⟨K32,trivial⟩⟩⟩⟩
def bVc:Tab:=[(40,i40),(4,i4),(27,i27),(3,i3),(32,i32),(9,i9),(217,cW8)]
theorem bKe:TOK Tryz.prog bVc:=⟨K40,⟨K4,⟨K27,⟨K3,⟨K32,⟨K9,⟨cXj,trivial⟩⟩⟩⟩⟩⟩⟩
def bVf:Tab:=[(40,i40),(217,cW8)]
theorem bKg:TOK Tryz.prog bVf:=⟨K40,⟨cXj,trivial⟩⟩
def bY0:Tab:=[(40,i40),(217,cW8)]
theorem bP4:TOK Tryz.prog bY0:=⟨K40,⟨cXj,trivial⟩⟩
def bVh:Tab:=[(40,i40),(217,cW8)]
theorem bKi:TOK Tryz.prog bVh:=⟨K40,⟨cXj,trivial⟩⟩
def bVg:Tab:=[(40,i40),(217,cW8)]
theorem bKh:TOK Tryz.prog bVg:=⟨K40,⟨cXj,trivial⟩⟩
def bVb:Tab:=[(40,i40),(4,i4),(27,i27),(3,i3),(32,i32),(9,i9)]
theorem bKd:TOK Tryz.prog bVb:=⟨K40,⟨K4,⟨K27,⟨K3,⟨K32,⟨K9,trivial⟩⟩⟩⟩⟩⟩
def bY1:Tab:=[(40,i40),(215,cYl)]
theorem bP5:TOK Tryz.prog bY1:=⟨K40,⟨cYr,trivial⟩⟩
def bVe:Tab:=[]
theorem aX5:TOK Tryz.prog bVe:=trivial
def bQw:Tab:=[(40,i40),(215,cYl)]
theorem bG9:TOK Tryz.prog bQw:=⟨K40,⟨cYr,trivial⟩⟩
def bKz:Tab:=[]
theorem aPb:TOK Tryz.prog bKz:=trivial
def aIh (x:Rat):Rat:=if 0<x.num then x else 0
def aVh (x:Rat):Rat:=if 0<=x.num then x else -x
def aIl (x:Rat):Rat:=if 0<x.num then 1 else 0
def aIi (x:Rat):Rat:=if x.num<0 then -1 else if x.num=0 then 0 else 1
def bDz (x y:Rat):Rat:=if 0<=(x - y).num then x else y
def aF3 (x y:Rat):Rat:=if 0<=(x - y).num then 1 else 0
theorem bOf:aAw (-1)=⟨#[45,49]⟩:=by decide +kernel
theorem bRt {x:Rat}(hx:RS x):aAc Tryz.prog GL 227 [.int .i64 0,.str (aAw x)] (λy=>y= .str (aAw (aIh x))):=by
 have h:=aPs hx
 rcases (by omega:x.num<0\/x.num=0\/0<x.num) with g|g|g
 · rw [show sg x.num= -1 by unfold sg;rw [if_pos g]] at h
   rw [aIh,if_neg (by omega),aCz]
   refine vgo aD2 Tryz.func227 ?_
   repeat' first|refine sV ⟨?_⟩|refine sq (λh=>⟨?_⟩) λh=>⟨?_⟩|fail
   all_goals (conv=>whnf)
   all_goals rfl
 · rw [show sg x.num=0 by unfold sg;rw [if_neg (by omega),if_pos g]] at h
   rw [aIh,if_neg (by omega),aCz]
   refine vgo aD2 Tryz.func227 ?_
   repeat' first|refine sV ⟨?_⟩|refine sq (λh=>⟨?_⟩) λh=>⟨?_⟩|fail
   all_goals (conv=>whnf)
   all_goals rfl
 · rw [show sg x.num=1 by unfold sg;rw [if_neg (by omega),if_neg (by omega)]] at h
   rw [aIh,if_pos (by omega)]
   refine vgo aD2 Tryz.func227 ?_
   repeat' first|refine sV ⟨?_⟩|refine sq (λh=>⟨?_⟩) λh=>⟨?_⟩|fail
   all_goals (conv=>whnf)
   all_goals rfl
theorem bV1 {x:Rat}(hx:RS x):aAc Tryz.prog GL 227 [.int .i64 2,.str (aAw x)] (λy=>y= .str (aAw (aVh x))):=by
 have h:=aPs hx
 have hn:=bZf hx
 rcases (by omega:x.num<0\/x.num=0\/0<x.num) with g|g|g
 · rw [show sg x.num= -1 by unfold sg;rw [if_pos g]] at h
   rw [aVh,if_neg (by omega)]
   refine vgo aD2 Tryz.func227 ?_
   repeat' first|refine sV ⟨?_⟩|refine sq (λh=>⟨?_⟩) λh=>⟨?_⟩|fail
   all_goals (conv=>whnf)
   all_goals rfl
 · rw [show sg x.num=0 by unfold sg;rw [if_neg (by omega),if_pos g]] at h
   rw [aVh,if_pos (by omega)]
   refine vgo aD2 Tryz.func227 ?_
   repeat' first|refine sV ⟨?_⟩|refine sq (λh=>⟨?_⟩) λh=>⟨?_⟩|fail
   all_goals (conv=>whnf)
   all_goals rfl
 · rw [show sg x.num=1 by unfold sg;rw [if_neg (by omega),if_neg (by omega)]] at h
   rw [aVh,if_pos (by omega)]
   refine vgo aD2 Tryz.func227 ?_
   repeat' first|refine sV ⟨?_⟩|refine sq (λh=>⟨?_⟩) λh=>⟨?_⟩|fail
   all_goals (conv=>whnf)
   all_goals rfl
set_option maxHeartbeats 1000000 in
theorem bRv {x:Rat}(hx:RS x):aAc Tryz.prog GL 227 [.int .i64 1,.str (aAw x)] (λy=>y= .str (aAw (aIl x))):=by
 have h:=aPs hx
 rcases (by omega:x.num<0\/x.num=0\/0<x.num) with g|g|g
 · rw [show sg x.num= -1 by unfold sg;rw [if_pos g]] at h
   rw [aIl,if_neg (by omega),aCz]
   refine vgo aD2 Tryz.func227 ?_
   repeat' first|refine sV ⟨?_⟩|refine sq (λh=>⟨?_⟩) λh=>⟨?_⟩|fail
   refine ⟨1,by decide,by decide,?_⟩
   repeat' first|refine sV ⟨?_⟩|refine sq (λh=>⟨?_⟩) λh=>⟨?_⟩|fail
   refine ⟨_,rfl,?_⟩
   repeat' first|refine sV ⟨?_⟩|refine sq (λh=>⟨?_⟩) λh=>⟨?_⟩|fail
   all_goals (conv=>whnf)
   all_goals rfl
 · rw [show sg x.num=0 by unfold sg;rw [if_neg (by omega),if_pos g]] at h
   rw [aIl,if_neg (by omega),aCz]
   refine vgo aD2 Tryz.func227 ?_
   repeat' first|refine sV ⟨?_⟩|refine sq (λh=>⟨?_⟩) λh=>⟨?_⟩|fail
   refine ⟨1,by decide,by decide,?_⟩
   repeat' first|refine sV ⟨?_⟩|refine sq (λh=>⟨?_⟩) λh=>⟨?_⟩|fail
   refine ⟨_,rfl,?_⟩
   repeat' first|refine sV ⟨?_⟩|refine sq (λh=>⟨?_⟩) λh=>⟨?_⟩|fail
   all_goals (conv=>whnf)
   all_goals rfl
 · rw [show sg x.num=1 by unfold sg;rw [if_neg (by omega),if_neg (by omega)]] at h
   rw [aIl,if_pos (by omega),aOw]
   refine vgo aD2 Tryz.func227 ?_
   repeat' first|refine sV ⟨?_⟩|refine sq (λh=>⟨?_⟩) λh=>⟨?_⟩|fail
   refine ⟨2,by decide,by decide,?_⟩
   repeat' first|refine sV ⟨?_⟩|refine sq (λh=>⟨?_⟩) λh=>⟨?_⟩|fail
   refine ⟨_,rfl,?_⟩
   repeat' first|refine sV ⟨?_⟩|refine sq (λh=>⟨?_⟩) λh=>⟨?_⟩|fail
   all_goals (conv=>whnf)
   all_goals rfl
set_option maxHeartbeats 1000000 in
theorem bRu {x:Rat}(hx:RS x):aAc Tryz.prog GL 227 [.int .i64 3,.str (aAw x)] (λy=>y= .str (aAw (aIi x))):=by
 have h:=aPs hx
 rcases (by omega:x.num<0\/x.num=0\/0<x.num) with g|g|g
 · rw [show sg x.num= -1 by unfold sg;rw [if_pos g]] at h
   rw [aIi,if_pos g,bOf]
   refine vgo aD2 Tryz.func227 ?_
   repeat' first|refine sV ⟨?_⟩|refine sq (λh=>⟨?_⟩) λh=>⟨?_⟩|fail
   refine ⟨0,by decide,by decide,?_⟩
   repeat' first|refine sV ⟨?_⟩|refine sq (λh=>⟨?_⟩) λh=>⟨?_⟩|fail
   refine ⟨_,rfl,?_⟩
   repeat' first|refine sV ⟨?_⟩|refine sq (λh=>⟨?_⟩) λh=>⟨?_⟩|fail
   all_goals (conv=>whnf)
   all_goals rfl
 · rw [show sg x.num=0 by unfold sg;rw [if_neg (by omega),if_pos g]] at h
   rw [aIi,if_neg (by omega),if_pos g,aCz]
   refine vgo aD2 Tryz.func227 ?_
   repeat' first|refine sV ⟨?_⟩|refine sq (λh=>⟨?_⟩) λh=>⟨?_⟩|fail
   refine ⟨1,by decide,by decide,?_⟩
   repeat' first|refine sV ⟨?_⟩|refine sq (λh=>⟨?_⟩) λh=>⟨?_⟩|fail
   refine ⟨_,rfl,?_⟩
   repeat' first|refine sV ⟨?_⟩|refine sq (λh=>⟨?_⟩) λh=>⟨?_⟩|fail
   all_goals (conv=>whnf)
   all_goals rfl
 · rw [show sg x.num=1 by unfold sg;rw [if_neg (by omega),if_neg (by omega)]] at h
   rw [aIi,if_neg (by omega),if_neg (by omega),aOw]
   refine vgo aD2 Tryz.func227 ?_
   repeat' first|refine sV ⟨?_⟩|refine sq (λh=>⟨?_⟩) λh=>⟨?_⟩|fail
   refine ⟨2,by decide,by decide,?_⟩
   repeat' first|refine sV ⟨?_⟩|refine sq (λh=>⟨?_⟩) λh=>⟨?_⟩|fail
   refine ⟨_,rfl,?_⟩
   repeat' first|refine sV ⟨?_⟩|refine sq (λh=>⟨?_⟩) λh=>⟨?_⟩|fail
   all_goals (conv=>whnf)
   all_goals rfl
set_option maxHeartbeats 2000000 in
theorem aVu (k:Int) (F:Rat->Rat){s:List Int}{v:List Rat}(h:VT s v) (hc:∀x,RS x->aAc Tryz.prog GL 227 [.int .i64 k,.str (aAw x)] (λy=>y= .str (aAw (F x)))):
 aAc Tryz.prog GL 190 [.int .i64 k,aAs s v] (λy=>y= .tup [aAs s (v.map F),.int .i64 0]):=by
 have h1:=aBp h
 have hv:=h.vl
 have hrs:=h.rs
 have hvl:=aAg v
 have hcl:=aGu GL s (by have:=h.sl;omega)
 unfold aAs at h1
 refine aAc.taken ?_
 show aAc _ _ _ _ (λx=>∃y,aC7 x y/\y= .tup [aAs s (v.map F),.int .i64 0])
 obtain ⟨r,hr⟩:∃r,r=v.map F:=⟨_,rfl⟩
 rw [<- hr]
 have hrl:r.length=v.length:=by rw [hr,List.length_map]
 have hrg:∀i (hi:i<v.length),r[i]'(by omega)=F v[i]:=λi hi=>by subst hr;exact List.getElem_map _
 clear hr
 refine vgo bKe Tryz.func190 ?_
 repeat' first|refine sV ⟨?_⟩|refine sq (λh=>⟨?_⟩) λh=>⟨?_⟩|fail
 refine ⟨[0,4,6,18,19,20],[1,2],λm st=>∃i:Nat,i<=v.length/\m=v.length - i/\
  ((i=0/\st=⟨[(0,.int .i64 k),(4,.bptr 0 0),(6,.bptr 1 0),(18,.ro 1 (aAj v)),(19,.int .i64 ((aAj v).length:Nat)),(20,.int .i64 (i:Nat))],
    [.box 40 [.nils,.nils],.box 40 [.ro 1 (aAh s),.nils]]⟩)\/
  (0<i/\st=⟨[(0,.int .i64 k),(4,.bptr 0 0),(6,.bptr 1 0),(18,.ro 1 (aAj v)),(19,.int .i64 ((aAj v).length:Nat)),(20,.int .i64 (i:Nat))],
    [.box 40 [.nils,.nils],.box 40 [.ro 1 (aAh s),.own 2 0 (aAj (r.take i)).length],.row false 9 1 (aAj (r.take i))]⟩)),rfl,⟨v.length,0,by omega,rfl,.inl ⟨rfl,rfl⟩⟩,?_⟩
 rintro m _ ⟨i,hi,hm,hst⟩
 have hol:(aAj (r.take i)).length=i:=by rw [aAg,List.length_take];omega
 rcases Nat.lt_or_ge i v.length with hil|hge
 · have g:(aAj v)[i]? =some [.str (aAw v[i])]:=aEq hil
   have hci:=hc v[i] (hrs _ (List.getElem_mem hil))
   rw [<- hrg i hil] at hci
   rcases hst with ⟨rfl,rfl⟩|⟨h0,rfl⟩
   · repeat' first|refine sV ⟨?_⟩|refine sq (λh=>⟨?_⟩) λh=>⟨?_⟩|fail
     refine ⟨by decide +kernel,[0,1,0,0,12,28,63,127,255],by decide +kernel,?_⟩
     repeat' first|refine sV ⟨?_⟩|refine sq (λh=>⟨?_⟩) λh=>⟨?_⟩|fail
     conv=>whnf
     refine ⟨Nat.le_of_ble_eq_true rfl,λh=>Nat.succ_ne_zero _ (congrArg List.length h),?_⟩
     repeat' first|refine sV ⟨?_⟩|refine sq (λh=>⟨?_⟩) λh=>⟨?_⟩|fail
     refine ⟨[0,1,3],v.length - (0+1),rfl,by omega,0+1,by omega,rfl,.inr ⟨by omega,?_⟩⟩
     exact Eq.trans rfl (congrArg (λz:List (List AV)=>(⟨[(0,.int .i64 k),(4,.bptr 0 0),(6,.bptr 1 0),(18,.ro 1 (aAj v)),(19,.int .i64 ((aAj v).length:Nat)),(20,.int .i64 ((0+1:Nat):Int))],
      [.box 40 [.nils,.nils],.box 40 [.ro 1 (aAh s),.own 2 0 z.length],.row false 9 1 z]⟩:St)) (aD6 (by omega)).symm)
   · repeat' first|refine sV ⟨?_⟩|refine sq (λh=>⟨?_⟩) λh=>⟨?_⟩|fail
     refine ⟨by decide +kernel,[0,1,0,0,12,28,63,127,255],by decide +kernel,?_⟩
     repeat' first|refine sV ⟨?_⟩|refine sq (λh=>⟨?_⟩) λh=>⟨?_⟩|fail
     refine ⟨Nat.le_refl _,(show ((aAj (r.take i)).length+1)*16<=140737488355328 by omega),_,aDe (by omega),?_⟩
     repeat' first|refine sV ⟨?_⟩|refine sq (λh=>⟨?_⟩) λh=>⟨?_⟩|fail
     all_goals exact ⟨[0,1,4],v.length - (i+1),rfl,by omega,i+1,by omega,rfl,.inr ⟨by omega,rfl⟩⟩
 · rcases hst with ⟨rfl,rfl⟩|⟨h0,rfl⟩
   · exact absurd hge (by omega)
   · repeat' first|refine sV ⟨?_⟩|refine sq (λh=>⟨?_⟩) λh=>⟨?_⟩|fail
     conv=>whnf
     have e:r.take i=r:=List.take_of_length_le (by omega)
     rw [e]
     exact ⟨_,aAf (aFo rfl rfl) rfl,rfl⟩
theorem bV3 {s:List Int}{v:List Rat}(h:VT s v):aAc Tryz.prog GL 145 [aAs s v] (λy=>y= .tup [aAs s (v.map aIh),.int .i64 0]):=by
 have hc:=aVu 0 aIh h (λx hx=>bRt hx)
 refine vgo bKg Tryz.func145 ?_
 repeat' first|refine sV ⟨?_⟩|refine sq (λh=>⟨?_⟩) λh=>⟨?_⟩|fail
 all_goals (conv=>whnf)
 all_goals rfl
theorem bZm {s:List Int}{v:List Rat}(h:VT s v):aAc Tryz.prog GL 146 [aAs s v] (λy=>y= .tup [aAs s (v.map aVh),.int .i64 0]):=by
 have hc:=aVu 2 aVh h (λx hx=>bV1 hx)
 refine vgo bP4 Tryz.func146 ?_
 repeat' first|refine sV ⟨?_⟩|refine sq (λh=>⟨?_⟩) λh=>⟨?_⟩|fail
 all_goals (conv=>whnf)
 all_goals rfl
theorem bV5 {s:List Int}{v:List Rat}(h:VT s v):aAc Tryz.prog GL 147 [aAs s v] (λy=>y= .tup [aAs s (v.map aIl),.int .i64 0]):=by
 have hc:=aVu 1 aIl h (λx hx=>bRv hx)
 refine vgo bKi Tryz.func147 ?_
 repeat' first|refine sV ⟨?_⟩|refine sq (λh=>⟨?_⟩) λh=>⟨?_⟩|fail
 all_goals (conv=>whnf)
 all_goals rfl
theorem bV4 {s:List Int}{v:List Rat}(h:VT s v):aAc Tryz.prog GL 148 [aAs s v] (λy=>y= .tup [aAs s (v.map aIi),.int .i64 0]):=by
 have hc:=aVu 3 aIi h (λx hx=>bRu hx)
 refine vgo bKh Tryz.func148 ?_
 repeat' first|refine sV ⟨?_⟩|refine sq (λh=>⟨?_⟩) λh=>⟨?_⟩|fail
 all_goals (conv=>whnf)
 all_goals rfl
set_option maxHeartbeats 4000000 in
theorem bL5 (f:FuncId) (G:Rat->Rat->Bool->Rat){s:List Int}{a b:List Rat}(ha:VT s a) (hb:VT s b) (hd:∀i (h:i<a.length),RS (a[i] - b[i]'(by have:=ha.len;have:=hb.len;omega)))
 (hc:∀x y c,aAc Tryz.prog GL f [.str (aAw x),.str (aAw y),.bool c] (λz=>z= .str (aAw (G x y c)))):
 aAc Tryz.prog GL 187 [aAs s a,aAs s b,.fn f []] (λy=>y= .tup [aAs s (List.zipWith (λx y=>G x y (decide (0<=(x - y).num))) a b),.int .i64 0]):=by
 have h1:=aBp ha
 have h2:=aBp hb
 have h3:=aC4 GL s s (by have:=ha.sl;omega) (by have:=ha.sl;omega)
 rw [decide_eq_true rfl] at h3
 have hv:=ha.vl
 have hl:b.length=a.length:=by have:=ha.len;have:=hb.len;omega
 have hvl:=aAg a
 have hbl:=aAg b
 have hcl:=aGu GL s (by have:=ha.sl;omega)
 unfold aAs at h1 h2
 refine aAc.taken ?_
 obtain ⟨r,hr⟩:∃r,r=List.zipWith (λx y=>G x y (decide (0<=(x - y).num))) a b:=⟨_,rfl⟩
 rw [<- hr]
 have hrl:r.length=a.length:=by rw [hr,List.length_zipWith];omega
 have hrg:∀i (hi:i<a.length),r[i]'(by omega)=G a[i] (b[i]'(by omega)) (decide (0<=(a[i] - b[i]'(by omega)).num)):=λi hi=>by subst hr;exact List.getElem_zipWith ..
 clear hr
 refine vgo bKd Tryz.func187 ?_
 repeat' first|refine sV ⟨?_⟩|refine sq (λh=>⟨?_⟩) λh=>⟨?_⟩|fail
 refine ⟨[2,4,6,8,36,37,38],[1,2,3],λm st=>∃i:Nat,i<=a.length/\m=a.length - i/\
  ((i=0/\st=⟨[(2,.fn f []),(4,.bptr 0 0),(6,.bptr 1 0),(8,.bptr 2 0),(36,.ro 1 (aAj a)),(37,.int .i64 ((aAj a).length:Nat)),(38,.int .i64 (i:Nat))],
    [.box 40 [.ro 1 (aAh s),.ro 1 (aAj b)],.box 40 [.nils,.nils],.box 40 [.ro 1 (aAh s),.nils]]⟩)\/
  (0<i/\st=⟨[(2,.fn f []),(4,.bptr 0 0),(6,.bptr 1 0),(8,.bptr 2 0),(36,.ro 1 (aAj a)),(37,.int .i64 ((aAj a).length:Nat)),(38,.int .i64 (i:Nat))],
    [.box 40 [.ro 1 (aAh s),.ro 1 (aAj b)],.box 40 [.nils,.nils],.box 40 [.ro 1 (aAh s),.own 3 0 (aAj (r.take i)).length],.row false 9 1 (aAj (r.take i))]⟩)),rfl,⟨a.length,0,by omega,rfl,.inl ⟨rfl,rfl⟩⟩,?_⟩
 rintro m _ ⟨i,hi,hm,hst⟩
 have hol:(aAj (r.take i)).length=i:=by rw [aAg,List.length_take];omega
 rcases Nat.lt_or_ge i a.length with hil|hge
 · have g:(aAj a)[i]? =some [.str (aAw a[i])]:=aEq hil
   have g2:(aAj b)[i]? =some [.str (aAw (b[i]'(by omega)))]:=aEq (by omega)
   rcases hst with ⟨rfl,rfl⟩|⟨h0,rfl⟩
   · have hcm:=aTr (ha.rs a[0] (List.getElem_mem hil)) (hb.rs (b[0]'(by omega)) (List.getElem_mem _)) (hd 0 hil)
     have hrv:=hrg 0 hil
     have hct:=hc a[0] (b[0]'(by omega)) true
     have hcf:=hc a[0] (b[0]'(by omega)) false
     generalize a[0] - b[0]'(by omega)=d at hcm hrv
     rcases (by omega:d.num<0\/d.num=0\/0<d.num) with k|k|k
     · rw [decide_eq_false (by omega)] at hrv
       rw [<- hrv] at hcf
       rw [show sg d.num= -1 by unfold sg;rw [if_pos k]] at hcm
       repeat' first|refine sV ⟨?_⟩|refine sq (λh=>⟨?_⟩) λh=>⟨?_⟩|fail
       refine ⟨by decide +kernel,[0,1,0,0,0,16,0,112,240,0,512,2044,4092,8191,16383,32767],by decide +kernel,?_⟩
       repeat' first|refine sV ⟨?_⟩|refine sq (λh=>⟨?_⟩) λh=>⟨?_⟩|fail
       conv=>whnf
       refine ⟨Nat.le_of_ble_eq_true rfl,λh=>Nat.succ_ne_zero _ (congrArg List.length h),?_⟩
       repeat' first|refine sV ⟨?_⟩|refine sq (λh=>⟨?_⟩) λh=>⟨?_⟩|fail
       refine ⟨[0,1,2,4],a.length - (0+1),rfl,by omega,0+1,by omega,rfl,.inr ⟨by omega,?_⟩⟩
       exact Eq.trans rfl (congrArg (λz:List (List AV)=>(⟨[(2,.fn f []),(4,.bptr 0 0),(6,.bptr 1 0),(8,.bptr 2 0),(36,.ro 1 (aAj a)),(37,.int .i64 ((aAj a).length:Nat)),(38,.int .i64 ((0+1:Nat):Int))],
        [.box 40 [.ro 1 (aAh s),.ro 1 (aAj b)],.box 40 [.nils,.nils],.box 40 [.ro 1 (aAh s),.own 3 0 z.length],.row false 9 1 z]⟩:St)) (aD6 (by omega)).symm)
     · rw [decide_eq_true (by omega)] at hrv
       rw [<- hrv] at hct
       rw [show sg d.num=0 by unfold sg;rw [if_neg (by omega),if_pos k]] at hcm
       repeat' first|refine sV ⟨?_⟩|refine sq (λh=>⟨?_⟩) λh=>⟨?_⟩|fail
       refine ⟨by decide +kernel,[0,1,0,0,0,16,0,112,240,0,512,2044,4092,8191,16383,32767],by decide +kernel,?_⟩
       repeat' first|refine sV ⟨?_⟩|refine sq (λh=>⟨?_⟩) λh=>⟨?_⟩|fail
       conv=>whnf
       refine ⟨Nat.le_of_ble_eq_true rfl,λh=>Nat.succ_ne_zero _ (congrArg List.length h),?_⟩
       repeat' first|refine sV ⟨?_⟩|refine sq (λh=>⟨?_⟩) λh=>⟨?_⟩|fail
       refine ⟨[0,1,2,4],a.length - (0+1),rfl,by omega,0+1,by omega,rfl,.inr ⟨by omega,?_⟩⟩
       exact Eq.trans rfl (congrArg (λz:List (List AV)=>(⟨[(2,.fn f []),(4,.bptr 0 0),(6,.bptr 1 0),(8,.bptr 2 0),(36,.ro 1 (aAj a)),(37,.int .i64 ((aAj a).length:Nat)),(38,.int .i64 ((0+1:Nat):Int))],
        [.box 40 [.ro 1 (aAh s),.ro 1 (aAj b)],.box 40 [.nils,.nils],.box 40 [.ro 1 (aAh s),.own 3 0 z.length],.row false 9 1 z]⟩:St)) (aD6 (by omega)).symm)
     · rw [decide_eq_true (by omega)] at hrv
       rw [<- hrv] at hct
       rw [show sg d.num=1 by unfold sg;rw [if_neg (by omega),if_neg (by omega)]] at hcm
       repeat' first|refine sV ⟨?_⟩|refine sq (λh=>⟨?_⟩) λh=>⟨?_⟩|fail
       refine ⟨by decide +kernel,[0,1,0,0,0,16,0,112,240,0,512,2044,4092,8191,16383,32767],by decide +kernel,?_⟩
       repeat' first|refine sV ⟨?_⟩|refine sq (λh=>⟨?_⟩) λh=>⟨?_⟩|fail
       conv=>whnf
       refine ⟨Nat.le_of_ble_eq_true rfl,λh=>Nat.succ_ne_zero _ (congrArg List.length h),?_⟩
       repeat' first|refine sV ⟨?_⟩|refine sq (λh=>⟨?_⟩) λh=>⟨?_⟩|fail
       refine ⟨[0,1,2,4],a.length - (0+1),rfl,by omega,0+1,by omega,rfl,.inr ⟨by omega,?_⟩⟩
       exact Eq.trans rfl (congrArg (λz:List (List AV)=>(⟨[(2,.fn f []),(4,.bptr 0 0),(6,.bptr 1 0),(8,.bptr 2 0),(36,.ro 1 (aAj a)),(37,.int .i64 ((aAj a).length:Nat)),(38,.int .i64 ((0+1:Nat):Int))],
        [.box 40 [.ro 1 (aAh s),.ro 1 (aAj b)],.box 40 [.nils,.nils],.box 40 [.ro 1 (aAh s),.own 3 0 z.length],.row false 9 1 z]⟩:St)) (aD6 (by omega)).symm)
   · have hcm:=aTr (ha.rs a[i] (List.getElem_mem hil)) (hb.rs (b[i]'(by omega)) (List.getElem_mem _)) (hd i hil)
     have hrv:=hrg i hil
     have hct:=hc a[i] (b[i]'(by omega)) true
     have hcf:=hc a[i] (b[i]'(by omega)) false
     generalize a[i] - b[i]'(by omega)=d at hcm hrv
     rcases (by omega:d.num<0\/d.num=0\/0<d.num) with k|k|k
     · rw [decide_eq_false (by omega)] at hrv
       rw [<- hrv] at hcf
       rw [show sg d.num= -1 by unfold sg;rw [if_pos k]] at hcm
       repeat' first|refine sV ⟨?_⟩|refine sq (λh=>⟨?_⟩) λh=>⟨?_⟩|fail
       refine ⟨by decide +kernel,[0,1,0,0,0,16,0,112,240,0,512,2044,4092,8191,16383,32767],by decide +kernel,?_⟩
       repeat' first|refine sV ⟨?_⟩|refine sq (λh=>⟨?_⟩) λh=>⟨?_⟩|fail
       refine ⟨Nat.le_refl _,(show ((aAj (r.take i)).length+1)*16<=140737488355328 by omega),_,aDe (by omega),?_⟩
       repeat' first|refine sV ⟨?_⟩|refine sq (λh=>⟨?_⟩) λh=>⟨?_⟩|fail
       all_goals exact ⟨[0,1,2,5],a.length - (i+1),rfl,by omega,i+1,by omega,rfl,.inr ⟨by omega,rfl⟩⟩
     · rw [decide_eq_true (by omega)] at hrv
       rw [<- hrv] at hct
       rw [show sg d.num=0 by unfold sg;rw [if_neg (by omega),if_pos k]] at hcm
       repeat' first|refine sV ⟨?_⟩|refine sq (λh=>⟨?_⟩) λh=>⟨?_⟩|fail
       refine ⟨by decide +kernel,[0,1,0,0,0,16,0,112,240,0,512,2044,4092,8191,16383,32767],by decide +kernel,?_⟩
       repeat' first|refine sV ⟨?_⟩|refine sq (λh=>⟨?_⟩) λh=>⟨?_⟩|fail
       refine ⟨Nat.le_refl _,(show ((aAj (r.take i)).length+1)*16<=140737488355328 by omega),_,aDe (by omega),?_⟩
       repeat' first|refine sV ⟨?_⟩|refine sq (λh=>⟨?_⟩) λh=>⟨?_⟩|fail
       all_goals exact ⟨[0,1,2,5],a.length - (i+1),rfl,by omega,i+1,by omega,rfl,.inr ⟨by omega,rfl⟩⟩
     · rw [decide_eq_true (by omega)] at hrv
       rw [<- hrv] at hct
       rw [show sg d.num=1 by unfold sg;rw [if_neg (by omega),if_neg (by omega)]] at hcm
       repeat' first|refine sV ⟨?_⟩|refine sq (λh=>⟨?_⟩) λh=>⟨?_⟩|fail
       refine ⟨by decide +kernel,[0,1,0,0,0,16,0,112,240,0,512,2044,4092,8191,16383,32767],by decide +kernel,?_⟩
       repeat' first|refine sV ⟨?_⟩|refine sq (λh=>⟨?_⟩) λh=>⟨?_⟩|fail
       refine ⟨Nat.le_refl _,(show ((aAj (r.take i)).length+1)*16<=140737488355328 by omega),_,aDe (by omega),?_⟩
       repeat' first|refine sV ⟨?_⟩|refine sq (λh=>⟨?_⟩) λh=>⟨?_⟩|fail
       all_goals exact ⟨[0,1,2,5],a.length - (i+1),rfl,by omega,i+1,by omega,rfl,.inr ⟨by omega,rfl⟩⟩
 · rcases hst with ⟨rfl,rfl⟩|⟨h0,rfl⟩
   · exact absurd hge (by omega)
   · repeat' first|refine sV ⟨?_⟩|refine sq (λh=>⟨?_⟩) λh=>⟨?_⟩|fail
     conv=>whnf
     have e:r.take i=r:=List.take_of_length_le (by omega)
     rw [e]
     exact ⟨_,aAf (aFo rfl rfl) rfl,rfl⟩
theorem bV2 (x y:Rat) (c:Bool):aAc Tryz.prog GL 188 [.str (aAw x),.str (aAw y),.bool c] (λz=>z= .str (aAw (if c=true then x else y))):=by
 cases c
 · refine vgo aX5 Tryz.func188 ?_
   repeat' first|refine sV ⟨?_⟩|refine sq (λh=>⟨?_⟩) λh=>⟨?_⟩|fail
   all_goals (conv=>whnf)
   all_goals rfl
 · refine vgo aX5 Tryz.func188 ?_
   repeat' first|refine sV ⟨?_⟩|refine sq (λh=>⟨?_⟩) λh=>⟨?_⟩|fail
   all_goals (conv=>whnf)
   all_goals rfl
theorem bL4 (x y:Rat) (c:Bool):aAc Tryz.prog GL 189 [.str (aAw x),.str (aAw y),.bool c] (λz=>z= .str (aAw (if c=true then 1 else 0))):=by
 cases c
 · rw [if_neg (by simp),aCz]
   refine vgo aPb Tryz.func189 ?_
   repeat' first|refine sV ⟨?_⟩|refine sq (λh=>⟨?_⟩) λh=>⟨?_⟩|fail
   all_goals (conv=>whnf)
   all_goals rfl
 · rw [if_pos rfl,aOw]
   refine vgo aPb Tryz.func189 ?_
   repeat' first|refine sV ⟨?_⟩|refine sq (λh=>⟨?_⟩) λh=>⟨?_⟩|fail
   all_goals (conv=>whnf)
   all_goals rfl
theorem bZn {s:List Int}{a b:List Rat}(ha:VT s a) (hb:VT s b) (hd:∀i (h:i<a.length),RS (a[i] - b[i]'(by have:=ha.len;have:=hb.len;omega))):
 aAc Tryz.prog GL 142 [aAs s a,aAs s b] (λy=>y= .tup [aAs s (List.zipWith bDz a b),.int .i64 0]):=by
 have h:=bL5 188 (λx y c=>if c=true then x else y) ha hb hd bV2
 simp only [decide_eq_true_eq] at h
 change aAc _ _ _ _ (λy=>y= .tup [aAs s (List.zipWith bDz a b),.int .i64 0]) at h
 refine vgo bP5 Tryz.func142 ?_
 repeat' first|refine sV ⟨?_⟩|refine sq (λh=>⟨?_⟩) λh=>⟨?_⟩|fail
 all_goals (conv=>whnf)
 all_goals rfl
theorem bRs {s:List Int}{a b:List Rat}(ha:VT s a) (hb:VT s b) (hd:∀i (h:i<a.length),RS (a[i] - b[i]'(by have:=ha.len;have:=hb.len;omega))):
 aAc Tryz.prog GL 143 [aAs s a,aAs s b] (λy=>y= .tup [aAs s (List.zipWith aF3 a b),.int .i64 0]):=by
 have h:=bL5 189 (λx y c=>if c=true then 1 else 0) ha hb hd bL4
 simp only [decide_eq_true_eq] at h
 change aAc _ _ _ _ (λy=>y= .tup [aAs s (List.zipWith aF3 a b),.int .i64 0]) at h
 refine vgo bG9 Tryz.func143 ?_
 repeat' first|refine sV ⟨?_⟩|refine sq (λh=>⟨?_⟩) λh=>⟨?_⟩|fail
 all_goals (conv=>whnf)
 all_goals rfl
end Go.V
namespace Go.V
open Go.N Go.Proofs
set_option maxRecDepth 20000
def bKs:Tab:=[(40,i40),(4,i4),(27,i27),(3,i3),(32,i32),(9,i9)]
theorem bBk:TOK Tryz.prog bKs:=⟨K40,⟨K4,⟨K27,⟨K3,⟨K32,⟨K9,trivial⟩⟩⟩⟩⟩⟩
def atR (l:List Rat) (i:Nat):Rat:=l[i]?.getD 0
theorem aF4 {l:List Rat}{i:Nat}(h:i<l.length):l[i]=atR l i:=by simp [atR,h]
theorem aNk {l:List Rat}{i:Nat}(h:i<l.length):(aAj l)[i]? =some [.str (aAw (atR l i))]:=by rw [aEq h,aF4 h]
def aCv (q c:Nat) (a b:List Rat) (i k:Nat):List Rat:=(List.range q).map λj=>atR a (i*q+j)*atR b (j*c+k)
theorem aBt (q c:Nat) (a b:List Rat) (i k:Nat):(aCv q c a b i k).length=q:=by simp [aCv]
theorem aEg {q c:Nat}{a b:List Rat}{i k j:Nat}(h:j<(aCv q c a b i k).length):(aCv q c a b i k)[j]=atR a (i*q+j)*atR b (j*c+k):=by simp [aCv]
def bIu (p q c:Nat) (a b:List Rat):List Rat:=(List.range (p*c)).map λn=>aEf (aCv q c a b (n / c) (n % c))
theorem aOr (p q c:Nat) (a b:List Rat):(bIu p q c a b).length=p*c:=by simp [bIu]
theorem aEn {i p k c:Nat}(hi:i<p) (hk:k<c):i*c+k<p*c:=by
 have h1:(i+1)*c<=p*c:=Nat.mul_le_mul_right _ hi
 rw [Nat.add_mul] at h1;omega
theorem bNd {i k c:Nat}(hk:k<c):(i*c+k) / c=i/\(i*c+k) % c=k:=by
 have hc:0<c:=by omega
 rw [Nat.add_comm,Nat.mul_comm]
 exact ⟨by rw [Nat.add_mul_div_left _ _ hc,Nat.div_eq_of_lt hk,Nat.zero_add],by rw [Nat.add_mul_mod_self_left,Nat.mod_eq_of_lt hk]⟩
theorem bFt {p q c:Nat}{a b:List Rat}{i k:Nat}(hi:i<p) (hk:k<c):(bIu p q c a b)[i*c+k]'(by rw [aOr];exact aEn hi hk)=aEf (aCv q c a b i k):=by
 simp [bIu,bNd hk]
theorem VT2 {p q:Nat}{a:List Rat}(h:VT [(p:Int),(q:Int)] a):1<=p/\p<=64/\1<=q/\q<=64/\a.length=p*q:=by
 have h1:=aCs h.ok p (by simp)
 have h2:=aCs h.ok q (by simp)
 have h3:=h.len
 simp only [aA8,List.foldl_cons,List.foldl_nil,Int.one_mul] at h3
 rw [<- Int.natCast_mul] at h3
 omega
set_option maxHeartbeats 8000000 in
theorem bLx (p q c:Nat){a b:List Rat}(ha:VT [(p:Int),(q:Int)] a) (hb:VT [(q:Int),(c:Int)] b) (hok:aAl [(p:Int),(c:Int)]=true)
 (hm:∀i k j,i<p->k<c->j<q->RS (atR a (i*q+j)*atR b (j*c+k))) (hs:∀i k j,i<p->k<c->j<=q->RS (aEf ((aCv q c a b i k).take j))):
 aAc Tryz.prog GL 144 [aAs [(p:Int),(q:Int)] a,aAs [(q:Int),(c:Int)] b] (λy=>y= .tup [aAs [(p:Int),(c:Int)] (bIu p q c a b),.int .i64 0]):=by
 have h1:=aBp ha
 have h2:=aBp hb
 obtain ⟨p1,p2,q1,q2,hal⟩:=VT2 ha
 obtain ⟨_,_,c1,c2,hbl⟩:=VT2 hb
 have hra:=ha.rs
 have hrb:=hb.rs
 have h3:=aCb GL [(p:Int),(c:Int)] (by simp)
 rw [hok] at h3
 have hpc:p*c<=4096:=Nat.mul_le_mul p2 c2
 unfold aAs at h1 h2
 refine aAc.taken ?_
 obtain ⟨r,hr⟩:∃r,r=bIu p q c a b:=⟨_,rfl⟩
 rw [<- hr]
 have hrl:r.length=p*c:=by rw [hr,aOr]
 have hrg:∀i k (hi:i<p) (hk:k<c),r[i*c+k]'(by rw [hrl];exact aEn hi hk)=aEf (aCv q c a b i k):=λi k hi hk=>by subst hr;exact bFt hi hk
 clear hr
 refine vgo bBk Tryz.func144 ?_
 repeat' first|refine sV ⟨?_⟩|refine sq (λh=>⟨?_⟩) λh=>⟨?_⟩|fail
 refine ⟨by decide +kernel,[0,1,3,7,15,31,63,127,255,511,1023,2047,4095,8191,16383,2047,34815,100351,231423,524287,1048575],by decide +kernel,?_⟩
 repeat' first|refine sV ⟨?_⟩|refine sq (λh=>⟨?_⟩) λh=>⟨?_⟩|fail
 refine ⟨by decide +kernel,[0,1,3,7,0,16,48,112,0,256,768,1792,15,4351,16383],by decide +kernel,?_⟩
 repeat' first|refine sV ⟨?_⟩|refine sq (λh=>⟨?_⟩) λh=>⟨?_⟩|fail
 refine ⟨[2,3,4,7,8,9,68,69],[0,1,2,4,3],λm st=>∃i:Nat,i<=p/\m=p - i/\((i*c=0/\st=⟨[(2,.bptr 0 0),(3,.bptr 1 0),(4,.bptr 2 0),(7,.int .i64 (q:Nat)),(8,.int .i64 (c:Nat)),(9,.bptr 3 0),(68,.int .i64 (p:Nat)),(69,.int .i64 (i:Nat))],[.box 40 [.ro 1 (aAh [(p:Int),(q:Int)]),.ro 1 (aAj a)],.box 40 [.ro 1 (aAh [(q:Int),(c:Int)]),.ro 1 (aAj b)],.box 40 [.nils,.nils],.box 40 [.own 4 0 2,.nils],.row false 3 1 (aAh [(p:Int),(c:Int)])]⟩)\/(0<i*c/\st=⟨[(2,.bptr 0 0),(3,.bptr 1 0),(4,.bptr 2 0),(7,.int .i64 (q:Nat)),(8,.int .i64 (c:Nat)),(9,.bptr 3 0),(68,.int .i64 (p:Nat)),(69,.int .i64 (i:Nat))],[.box 40 [.ro 1 (aAh [(p:Int),(q:Int)]),.ro 1 (aAj a)],.box 40 [.ro 1 (aAh [(q:Int),(c:Int)]),.ro 1 (aAj b)],.box 40 [.nils,.nils],.box 40 [.own 4 0 2,.own 5 0 (aAj (r.take (i*c))).length],.row false 3 1 (aAh [(p:Int),(c:Int)]),.row false 9 1 (aAj (r.take (i*c)))]⟩)),rfl,⟨p,0,by omega,rfl,.inl ⟨by omega,rfl⟩⟩,?_⟩
 rintro m _ ⟨i,hi,hm0,hst⟩
 have hic:i*c<=p*c:=Nat.mul_le_mul_right _ hi
 have hol:(aAj (r.take (i*c))).length=i*c:=by rw [aAg,List.length_take];omega
 rcases Nat.lt_or_ge i p with hil|hge
 · have hst2:True:=trivial
   rcases hst with ⟨h0,rfl⟩|⟨h0,rfl⟩
   all_goals (repeat' first|refine sV ⟨?_⟩|refine sq (λh=>⟨?_⟩) λh=>⟨?_⟩|fail)
   all_goals first
    |refine ⟨[2,3,4,7,8,9,10,68,69,72,73],[0,1,2,3,4,5],λm st=>∃k:Nat,k<=c/\m=c - k/\((i*c+k=0/\st=⟨[(2,.bptr 0 0),(3,.bptr 1 0),(4,.bptr 2 0),(7,.int .i64 (q:Nat)),(8,.int .i64 (c:Nat)),(9,.bptr 3 0),(10,.int .i64 (i:Nat)),(68,.int .i64 (p:Nat)),(69,.int .i64 (i:Nat)),(72,.int .i64 (c:Nat)),(73,.int .i64 (k:Nat))],[.box 40 [.ro 1 (aAh [(p:Int),(q:Int)]),.ro 1 (aAj a)],.box 40 [.ro 1 (aAh [(q:Int),(c:Int)]),.ro 1 (aAj b)],.box 40 [.nils,.nils],.box 40 [.own 4 0 2,.nils],.row false 3 1 (aAh [(p:Int),(c:Int)])]⟩)\/(0<i*c+k/\st=⟨[(2,.bptr 0 0),(3,.bptr 1 0),(4,.bptr 2 0),(7,.int .i64 (q:Nat)),(8,.int .i64 (c:Nat)),(9,.bptr 3 0),(10,.int .i64 (i:Nat)),(68,.int .i64 (p:Nat)),(69,.int .i64 (i:Nat)),(72,.int .i64 (c:Nat)),(73,.int .i64 (k:Nat))],[.box 40 [.ro 1 (aAh [(p:Int),(q:Int)]),.ro 1 (aAj a)],.box 40 [.ro 1 (aAh [(q:Int),(c:Int)]),.ro 1 (aAj b)],.box 40 [.nils,.nils],.box 40 [.own 4 0 2,.own 5 0 (aAj (r.take (i*c+k))).length],.row false 3 1 (aAh [(p:Int),(c:Int)]),.row false 9 1 (aAj (r.take (i*c+k)))]⟩)),rfl,⟨c,0,by omega,rfl,.inr ⟨by omega,rfl⟩⟩,?_⟩
    |refine ⟨[2,3,4,7,8,9,10,68,69,72,73],[0,1,2,3,4],λm st=>∃k:Nat,k<=c/\m=c - k/\((i*c+k=0/\st=⟨[(2,.bptr 0 0),(3,.bptr 1 0),(4,.bptr 2 0),(7,.int .i64 (q:Nat)),(8,.int .i64 (c:Nat)),(9,.bptr 3 0),(10,.int .i64 (i:Nat)),(68,.int .i64 (p:Nat)),(69,.int .i64 (i:Nat)),(72,.int .i64 (c:Nat)),(73,.int .i64 (k:Nat))],[.box 40 [.ro 1 (aAh [(p:Int),(q:Int)]),.ro 1 (aAj a)],.box 40 [.ro 1 (aAh [(q:Int),(c:Int)]),.ro 1 (aAj b)],.box 40 [.nils,.nils],.box 40 [.own 4 0 2,.nils],.row false 3 1 (aAh [(p:Int),(c:Int)])]⟩)\/(0<i*c+k/\st=⟨[(2,.bptr 0 0),(3,.bptr 1 0),(4,.bptr 2 0),(7,.int .i64 (q:Nat)),(8,.int .i64 (c:Nat)),(9,.bptr 3 0),(10,.int .i64 (i:Nat)),(68,.int .i64 (p:Nat)),(69,.int .i64 (i:Nat)),(72,.int .i64 (c:Nat)),(73,.int .i64 (k:Nat))],[.box 40 [.ro 1 (aAh [(p:Int),(q:Int)]),.ro 1 (aAj a)],.box 40 [.ro 1 (aAh [(q:Int),(c:Int)]),.ro 1 (aAj b)],.box 40 [.nils,.nils],.box 40 [.own 4 0 2,.own 5 0 (aAj (r.take (i*c+k))).length],.row false 3 1 (aAh [(p:Int),(c:Int)]),.row false 9 1 (aAj (r.take (i*c+k)))]⟩)),rfl,⟨c,0,by omega,rfl,.inl ⟨by omega,rfl⟩⟩,?_⟩
   all_goals rintro m2 _ ⟨k,hk,hm2,hst⟩
   all_goals (
    have hn:i*c+k<=p*c:=by have:=aEn (p:=p) (c:=c+1) hil (show k<c+1 by omega);rw [Nat.mul_add,Nat.mul_add] at this;have h9:(i+1)*c<=p*c:=Nat.mul_le_mul_right _ hil;rw [Nat.add_mul] at h9;omega
    have hol2:(aAj (r.take (i*c+k))).length=i*c+k:=by rw [aAg,List.length_take];omega
    rcases Nat.lt_or_ge k c with hkl|hkge
    · have hrv:=hrg i k hil hkl
      have hix:=aEn hil hkl
      rcases hst with ⟨h1,rfl⟩|⟨h1,rfl⟩
      · first
        |(exfalso;omega)
        |(
         repeat' first|refine sV ⟨?_⟩|refine sq (λh=>⟨?_⟩) λh=>⟨?_⟩|fail
         refine ⟨[2,3,4,7,8,9,10,11,12,68,69,72,73,76,77],[0,1,2,3,4],λm st=>∃j:Nat,j<=q/\m=q - j/\st=⟨[(2,.bptr 0 0),(3,.bptr 1 0),(4,.bptr 2 0),(7,.int .i64 (q:Nat)),(8,.int .i64 (c:Nat)),(9,.bptr 3 0),(10,.int .i64 (i:Nat)),(11,.int .i64 (k:Nat)),(12,.str (aAw (aEf ((aCv q c a b i k).take j)))),(68,.int .i64 (p:Nat)),(69,.int .i64 (i:Nat)),(72,.int .i64 (c:Nat)),(73,.int .i64 (k:Nat)),(76,.int .i64 (q:Nat)),(77,.int .i64 (j:Nat))],[.box 40 [.ro 1 (aAh [(p:Int),(q:Int)]),.ro 1 (aAj a)],.box 40 [.ro 1 (aAh [(q:Int),(c:Int)]),.ro 1 (aAj b)],.box 40 [.nils,.nils],.box 40 [.own 4 0 2,.nils],.row false 3 1 (aAh [(p:Int),(c:Int)])]⟩,rfl,⟨q,0,by omega,rfl,Eq.trans rfl (congrArg (λz:ByteArray=>(⟨[(2,.bptr 0 0),(3,.bptr 1 0),(4,.bptr 2 0),(7,.int .i64 (q:Nat)),(8,.int .i64 (c:Nat)),(9,.bptr 3 0),(10,.int .i64 (i:Nat)),(11,.int .i64 (k:Nat)),(12,.str (z)),(68,.int .i64 (p:Nat)),(69,.int .i64 (i:Nat)),(72,.int .i64 (c:Nat)),(73,.int .i64 (k:Nat)),(76,.int .i64 (q:Nat)),(77,.int .i64 (0:Nat))],[.box 40 [.ro 1 (aAh [(p:Int),(q:Int)]),.ro 1 (aAj a)],.box 40 [.ro 1 (aAh [(q:Int),(c:Int)]),.ro 1 (aAj b)],.box 40 [.nils,.nils],.box 40 [.own 4 0 2,.nils],.row false 3 1 (aAh [(p:Int),(c:Int)])]⟩:St)) (show (⟨#[48]⟩:ByteArray)=aAw (aEf ((aCv q c a b i k).take 0)) by rw [List.take_zero,aEr,aCz]))⟩,?_⟩
         rintro m3 _ ⟨j,hj,hm3,rfl⟩
         rcases Nat.lt_or_ge j q with hjl|hjge
         · have hA:=aEn hil hjl
           have hB:=aEn hjl hkl
           have gA:=aNk (l:=a) (i:=i*q+j) (by omega)
           have gB:=aNk (l:=b) (i:=j*c+k) (by omega)
           have hpq:p*q<=4096:=Nat.mul_le_mul p2 q2
           have hqc:q*c<=4096:=Nat.mul_le_mul q2 c2
           have e1:(i:Int)*(q:Int)=((i*q:Nat):Int):=by simp
           have e2:(j:Int)*(c:Int)=((j*c:Nat):Int):=by simp
           have b1:0<=(i:Int)*(q:Int)/\(i:Int)*(q:Int)<=4096:=by rw [e1];omega
           have b2:0<=(j:Int)*(c:Int)/\(j:Int)*(c:Int)<=4096:=by rw [e2];omega
           have hRm:=aTs (x:=atR a (i*q+j)) (y:=atR b (j*c+k)) (by rw [<- aF4 (by omega)];exact hra _ (List.getElem_mem _)) (by rw [<- aF4 (by omega)];exact hrb _ (List.getElem_mem _))
           have hRa:=aY4 (hs i k j hil hkl (by omega)) (hm i k j hil hkl hjl)
           rw [<- aEg (by rw [aBt];exact hjl),<-aDt] at hRa
           rw [<- aEg (by rw [aBt];exact hjl)] at hRm
           repeat' first|refine sV ⟨?_⟩|refine sq (λh=>⟨?_⟩) λh=>⟨?_⟩|fail
           refine ⟨by decide +kernel,[0,1,0,0,12,0,60,127,255,0,512,0,0,6144,0,30720,65024,130560,262143,524287,1048575,1048575,2097151,8388607],by decide +kernel,?_⟩
           repeat' first|refine sV ⟨?_⟩|refine sq (λh=>⟨?_⟩) λh=>⟨?_⟩|fail
           refine ⟨i*q+j,_,(by rw [e1];omega),gA,?_⟩
           repeat' first|refine sV ⟨?_⟩|refine sq (λh=>⟨?_⟩) λh=>⟨?_⟩|fail
           refine ⟨j*c+k,_,(by rw [e2];omega),gB,?_⟩
           repeat' first|refine sV ⟨?_⟩|refine sq (λh=>⟨?_⟩) λh=>⟨?_⟩|fail
           all_goals exact ⟨[0,1,2,3,4],q - (j+1),rfl,by omega,j+1,by omega,rfl,rfl⟩
         obtain rfl:q=j:=by omega
         repeat' first|refine sV ⟨?_⟩|refine sq (λh=>⟨?_⟩) λh=>⟨?_⟩|fail
         conv=>whnf
         refine ⟨Nat.le_of_ble_eq_true rfl,λh=>Nat.succ_ne_zero _ (congrArg List.length h),?_⟩
         repeat' first|refine sV ⟨?_⟩|refine sq (λh=>⟨?_⟩) λh=>⟨?_⟩|fail
         refine ⟨[0,1,2,3,4,6],c - (k+1),rfl,by omega,k+1,by omega,rfl,.inr ⟨by omega,?_⟩⟩
         have hone:aAj (r.take (i*c+(k+1)))=[[.str (aAw (aEf ((aCv q c a b i k).take q)))]]:=by
          have e1:i*c+(k+1)=1:=by omega
          rw [e1,aD6 (by omega),List.take_of_length_le (by rw [aBt];exact Nat.le_refl _),<-hrv];simp [h1]
         exact Eq.trans rfl (congrArg (λz:List (List AV)=>(⟨[(2,.bptr 0 0),(3,.bptr 1 0),(4,.bptr 2 0),(7,.int .i64 (q:Nat)),(8,.int .i64 (c:Nat)),(9,.bptr 3 0),(10,.int .i64 (i:Nat)),(68,.int .i64 (p:Nat)),(69,.int .i64 (i:Nat)),(72,.int .i64 (c:Nat)),(73,.int .i64 (k+1:Nat))],[.box 40 [.ro 1 (aAh [(p:Int),(q:Int)]),.ro 1 (aAj a)],.box 40 [.ro 1 (aAh [(q:Int),(c:Int)]),.ro 1 (aAj b)],.box 40 [.nils,.nils],.box 40 [.own 4 0 2,.own 5 0 (z).length],.row false 3 1 (aAh [(p:Int),(c:Int)]),.row false 9 1 (z)]⟩:St)) hone.symm))
      · repeat' first|refine sV ⟨?_⟩|refine sq (λh=>⟨?_⟩) λh=>⟨?_⟩|fail
        refine ⟨[2,3,4,7,8,9,10,11,12,68,69,72,73,76,77],[0,1,2,3,4,5],λm st=>∃j:Nat,j<=q/\m=q - j/\st=⟨[(2,.bptr 0 0),(3,.bptr 1 0),(4,.bptr 2 0),(7,.int .i64 (q:Nat)),(8,.int .i64 (c:Nat)),(9,.bptr 3 0),(10,.int .i64 (i:Nat)),(11,.int .i64 (k:Nat)),(12,.str (aAw (aEf ((aCv q c a b i k).take j)))),(68,.int .i64 (p:Nat)),(69,.int .i64 (i:Nat)),(72,.int .i64 (c:Nat)),(73,.int .i64 (k:Nat)),(76,.int .i64 (q:Nat)),(77,.int .i64 (j:Nat))],[.box 40 [.ro 1 (aAh [(p:Int),(q:Int)]),.ro 1 (aAj a)],.box 40 [.ro 1 (aAh [(q:Int),(c:Int)]),.ro 1 (aAj b)],.box 40 [.nils,.nils],.box 40 [.own 4 0 2,.own 5 0 (aAj (r.take (i*c+k))).length],.row false 3 1 (aAh [(p:Int),(c:Int)]),.row false 9 1 (aAj (r.take (i*c+k)))]⟩,rfl,⟨q,0,by omega,rfl,Eq.trans rfl (congrArg (λz:ByteArray=>(⟨[(2,.bptr 0 0),(3,.bptr 1 0),(4,.bptr 2 0),(7,.int .i64 (q:Nat)),(8,.int .i64 (c:Nat)),(9,.bptr 3 0),(10,.int .i64 (i:Nat)),(11,.int .i64 (k:Nat)),(12,.str (z)),(68,.int .i64 (p:Nat)),(69,.int .i64 (i:Nat)),(72,.int .i64 (c:Nat)),(73,.int .i64 (k:Nat)),(76,.int .i64 (q:Nat)),(77,.int .i64 (0:Nat))],[.box 40 [.ro 1 (aAh [(p:Int),(q:Int)]),.ro 1 (aAj a)],.box 40 [.ro 1 (aAh [(q:Int),(c:Int)]),.ro 1 (aAj b)],.box 40 [.nils,.nils],.box 40 [.own 4 0 2,.own 5 0 (aAj (r.take (i*c+k))).length],.row false 3 1 (aAh [(p:Int),(c:Int)]),.row false 9 1 (aAj (r.take (i*c+k)))]⟩:St)) (show (⟨#[48]⟩:ByteArray)=aAw (aEf ((aCv q c a b i k).take 0)) by rw [List.take_zero,aEr,aCz]))⟩,?_⟩
        rintro m3 _ ⟨j,hj,hm3,rfl⟩
        rcases Nat.lt_or_ge j q with hjl|hjge
        · have hA:=aEn hil hjl
          have hB:=aEn hjl hkl
          have gA:=aNk (l:=a) (i:=i*q+j) (by omega)
          have gB:=aNk (l:=b) (i:=j*c+k) (by omega)
          have hpq:p*q<=4096:=Nat.mul_le_mul p2 q2
          have hqc:q*c<=4096:=Nat.mul_le_mul q2 c2
          have e1:(i:Int)*(q:Int)=((i*q:Nat):Int):=by simp
          have e2:(j:Int)*(c:Int)=((j*c:Nat):Int):=by simp
          have b1:0<=(i:Int)*(q:Int)/\(i:Int)*(q:Int)<=4096:=by rw [e1];omega
          have b2:0<=(j:Int)*(c:Int)/\(j:Int)*(c:Int)<=4096:=by rw [e2];omega
          have hRm:=aTs (x:=atR a (i*q+j)) (y:=atR b (j*c+k)) (by rw [<- aF4 (by omega)];exact hra _ (List.getElem_mem _)) (by rw [<- aF4 (by omega)];exact hrb _ (List.getElem_mem _))
          have hRa:=aY4 (hs i k j hil hkl (by omega)) (hm i k j hil hkl hjl)
          rw [<- aEg (by rw [aBt];exact hjl),<-aDt] at hRa
          rw [<- aEg (by rw [aBt];exact hjl)] at hRm
          repeat' first|refine sV ⟨?_⟩|refine sq (λh=>⟨?_⟩) λh=>⟨?_⟩|fail
          refine ⟨by decide +kernel,[0,1,0,0,12,0,60,127,255,0,512,0,0,6144,0,30720,65024,130560,262143,524287,1048575,1048575,2097151,8388607],by decide +kernel,?_⟩
          repeat' first|refine sV ⟨?_⟩|refine sq (λh=>⟨?_⟩) λh=>⟨?_⟩|fail
          refine ⟨i*q+j,_,(by rw [e1];omega),gA,?_⟩
          repeat' first|refine sV ⟨?_⟩|refine sq (λh=>⟨?_⟩) λh=>⟨?_⟩|fail
          refine ⟨j*c+k,_,(by rw [e2];omega),gB,?_⟩
          repeat' first|refine sV ⟨?_⟩|refine sq (λh=>⟨?_⟩) λh=>⟨?_⟩|fail
          all_goals exact ⟨[0,1,2,3,4,5],q - (j+1),rfl,by omega,j+1,by omega,rfl,rfl⟩
        obtain rfl:q=j:=by omega
        have hsn:aAj (r.take (i*c+(k+1)))=List.take (aAj (r.take (i*c+k))).length (aAj (r.take (i*c+k)))++[[.str (aAw (aEf ((aCv q c a b i k).take q)))]]:=by
         rw [List.take_of_length_le (l:=aCv q c a b i k) (by rw [aBt];exact Nat.le_refl _),<-hrv,<-Nat.add_assoc,aDe (by omega)]
        repeat' first|refine sV ⟨?_⟩|refine sq (λh=>⟨?_⟩) λh=>⟨?_⟩|fail
        refine ⟨Nat.le_refl _,(show ((aAj (r.take (i*c+k))).length+1)*16<=140737488355328 by omega),_,hsn,?_⟩
        repeat' first|refine sV ⟨?_⟩|refine sq (λh=>⟨?_⟩) λh=>⟨?_⟩|fail
        all_goals exact ⟨[0,1,2,3,4,7],c - (k+1),rfl,by omega,k+1,by omega,rfl,.inr ⟨by omega,rfl⟩⟩
    · obtain rfl:c=k:=by omega
      rcases hst with ⟨h1,rfl⟩|⟨h1,rfl⟩
      · omega
      · repeat' first|refine sV ⟨?_⟩|refine sq (λh=>⟨?_⟩) λh=>⟨?_⟩|fail
        refine ⟨[0,1,2,3,4,5],p - (i+1),rfl,by omega,i+1,by omega,rfl,.inr ⟨by rw [Nat.add_mul];omega,?_⟩⟩
        exact Eq.trans rfl (congrArg (λn:Nat=>(⟨[(2,.bptr 0 0),(3,.bptr 1 0),(4,.bptr 2 0),(7,.int .i64 (q:Nat)),(8,.int .i64 (c:Nat)),(9,.bptr 3 0),(68,.int .i64 (p:Nat)),(69,.int .i64 (i+1:Nat))],[.box 40 [.ro 1 (aAh [(p:Int),(q:Int)]),.ro 1 (aAj a)],.box 40 [.ro 1 (aAh [(q:Int),(c:Int)]),.ro 1 (aAj b)],.box 40 [.nils,.nils],.box 40 [.own 4 0 2,.own 5 0 (aAj (r.take n)).length],.row false 3 1 (aAh [(p:Int),(c:Int)]),.row false 9 1 (aAj (r.take n))]⟩:St)) (show i*c+c=(i+1)*c by rw [Nat.add_mul];omega)))
 · obtain rfl:p=i:=by omega
   rcases hst with ⟨h0,rfl⟩|⟨h0,rfl⟩
   · exact absurd h0 (by have:=Nat.mul_pos (show 0<p by omega) (show 0<c by omega);omega)
   · repeat' first|refine sV ⟨?_⟩|refine sq (λh=>⟨?_⟩) λh=>⟨?_⟩|fail
     conv=>whnf
     have e:r.take (p*c)=r:=List.take_of_length_le (by omega)
     rw [e]
     exact ⟨_,aAf (aFo rfl rfl) rfl,rfl⟩
end Go.V
namespace Go.V
open Go.N Go.Proofs
set_option maxRecDepth 20000
def aVb:Tab:=[(40,i40),(4,i4),(27,i27),(3,i3),(32,i32),(9,i9)]
theorem aO9:TOK Tryz.prog aVb:=⟨K40,⟨K4,⟨K27,⟨K3,⟨K32,⟨K9,trivial⟩⟩⟩⟩⟩⟩
def aG7 (p q:Nat) (a:List Rat):List Rat:=(List.range (q*p)).map λn=>atR a (n % p*q+n / p)
theorem aKn (p q:Nat) (a:List Rat):(aG7 p q a).length=q*p:=by simp [aG7]
theorem bJa {p q:Nat}{a:List Rat}{k i:Nat}(hk:k<q) (hi:i<p):(aG7 p q a)[k*p+i]'(by rw [aKn];exact aEn hk hi)=atR a (i*q+k):=by simp [aG7,bNd hi]
set_option maxHeartbeats 4000000 in
theorem aZa (p q:Nat){a:List Rat}(ha:VT [(p:Int),(q:Int)] a):
 aAc Tryz.prog GL 150 [aAs [(p:Int),(q:Int)] a] (λy=>y= .tup [aAs [(q:Int),(p:Int)] (aG7 p q a),.int .i64 0]):=by
 have h1:=aBp ha
 obtain ⟨p1,p2,q1,q2,hal⟩:=VT2 ha
 have hpq:p*q<=4096:=Nat.mul_le_mul p2 q2
 unfold aAs at h1
 refine aAc.taken ?_
 obtain ⟨r,hr⟩:∃r,r=aG7 p q a:=⟨_,rfl⟩
 rw [<- hr]
 have hrl:r.length=q*p:=by rw [hr,aKn]
 have hrg:∀k i (hk:k<q) (hi:i<p),r[k*p+i]'(by rw [hrl];exact aEn hk hi)=atR a (i*q+k):=λk i hk hi=>by subst hr;exact bJa hk hi
 have hqp:q*p<=4096:=Nat.mul_le_mul q2 p2
 clear hr
 refine vgo aO9 Tryz.func150 ?_
 repeat' first|refine sV ⟨?_⟩|refine sq (λh=>⟨?_⟩) λh=>⟨?_⟩|fail
 refine ⟨by decide +kernel,[0,1,3,7,0,16,48,112,255,511,0,2047],by decide +kernel,?_⟩
 repeat' first|refine sV ⟨?_⟩|refine sq (λh=>⟨?_⟩) λh=>⟨?_⟩|fail
 refine ⟨[1,2,4,31,32],[0,1,3,2],λm st=>∃k:Nat,k<=q/\m=q - k/\((k*p=0/\st=⟨[(1,.bptr 0 0),(2,.bptr 1 0),(4,.bptr 2 0),(31,.int .i64 (q:Nat)),(32,.int .i64 (k:Nat))],[.box 40 [.ro 1 (aAh [(p:Int),(q:Int)]),.ro 1 (aAj a)],.box 40 [.nils,.nils],.box 40 [.own 3 0 2,.nils],.row false 3 1 (aAh [(q:Int),(p:Int)])]⟩)\/(0<k*p/\st=⟨[(1,.bptr 0 0),(2,.bptr 1 0),(4,.bptr 2 0),(31,.int .i64 (q:Nat)),(32,.int .i64 (k:Nat))],[.box 40 [.ro 1 (aAh [(p:Int),(q:Int)]),.ro 1 (aAj a)],.box 40 [.nils,.nils],.box 40 [.own 3 0 2,.own 4 0 (aAj (r.take (k*p))).length],.row false 3 1 (aAh [(q:Int),(p:Int)]),.row false 9 1 (aAj (r.take (k*p)))]⟩)),rfl,⟨q,0,by omega,rfl,.inl ⟨by omega,rfl⟩⟩,?_⟩
 rintro m _ ⟨k,hk,hm0,hst⟩
 have hkp:k*p<=q*p:=Nat.mul_le_mul_right _ hk
 have hol:(aAj (r.take (k*p))).length=k*p:=by rw [aAg,List.length_take];omega
 rcases Nat.lt_or_ge k q with hkl|hkge
 · rcases hst with ⟨h0,rfl⟩|⟨h0,rfl⟩
   all_goals (repeat' first|refine sV ⟨?_⟩|refine sq (λh=>⟨?_⟩) λh=>⟨?_⟩|fail)
   all_goals first
    |refine ⟨[1,2,4,5,31,32,38,39],[0,1,2,3,4],λm st=>∃i:Nat,i<=p/\m=p - i/\((k*p+i=0/\st=⟨[(1,.bptr 0 0),(2,.bptr 1 0),(4,.bptr 2 0),(5,.int .i64 (k:Nat)),(31,.int .i64 (q:Nat)),(32,.int .i64 (k:Nat)),(38,.int .i64 (p:Nat)),(39,.int .i64 (i:Nat))],[.box 40 [.ro 1 (aAh [(p:Int),(q:Int)]),.ro 1 (aAj a)],.box 40 [.nils,.nils],.box 40 [.own 3 0 2,.nils],.row false 3 1 (aAh [(q:Int),(p:Int)])]⟩)\/(0<k*p+i/\st=⟨[(1,.bptr 0 0),(2,.bptr 1 0),(4,.bptr 2 0),(5,.int .i64 (k:Nat)),(31,.int .i64 (q:Nat)),(32,.int .i64 (k:Nat)),(38,.int .i64 (p:Nat)),(39,.int .i64 (i:Nat))],[.box 40 [.ro 1 (aAh [(p:Int),(q:Int)]),.ro 1 (aAj a)],.box 40 [.nils,.nils],.box 40 [.own 3 0 2,.own 4 0 (aAj (r.take (k*p+i))).length],.row false 3 1 (aAh [(q:Int),(p:Int)]),.row false 9 1 (aAj (r.take (k*p+i)))]⟩)),rfl,⟨p,0,by omega,rfl,.inr ⟨by omega,rfl⟩⟩,?_⟩
    |refine ⟨[1,2,4,5,31,32,38,39],[0,1,2,3],λm st=>∃i:Nat,i<=p/\m=p - i/\((k*p+i=0/\st=⟨[(1,.bptr 0 0),(2,.bptr 1 0),(4,.bptr 2 0),(5,.int .i64 (k:Nat)),(31,.int .i64 (q:Nat)),(32,.int .i64 (k:Nat)),(38,.int .i64 (p:Nat)),(39,.int .i64 (i:Nat))],[.box 40 [.ro 1 (aAh [(p:Int),(q:Int)]),.ro 1 (aAj a)],.box 40 [.nils,.nils],.box 40 [.own 3 0 2,.nils],.row false 3 1 (aAh [(q:Int),(p:Int)])]⟩)\/(0<k*p+i/\st=⟨[(1,.bptr 0 0),(2,.bptr 1 0),(4,.bptr 2 0),(5,.int .i64 (k:Nat)),(31,.int .i64 (q:Nat)),(32,.int .i64 (k:Nat)),(38,.int .i64 (p:Nat)),(39,.int .i64 (i:Nat))],[.box 40 [.ro 1 (aAh [(p:Int),(q:Int)]),.ro 1 (aAj a)],.box 40 [.nils,.nils],.box 40 [.own 3 0 2,.own 4 0 (aAj (r.take (k*p+i))).length],.row false 3 1 (aAh [(q:Int),(p:Int)]),.row false 9 1 (aAj (r.take (k*p+i)))]⟩)),rfl,⟨p,0,by omega,rfl,.inl ⟨by omega,rfl⟩⟩,?_⟩
   all_goals rintro m2 _ ⟨i,hi,hm2,hst⟩
   all_goals (
    have hn:k*p+i<=q*p:=by have h9:(k+1)*p<=q*p:=Nat.mul_le_mul_right _ hkl;rw [Nat.add_mul] at h9;omega
    have hol2:(aAj (r.take (k*p+i))).length=k*p+i:=by rw [aAg,List.length_take];omega
    rcases Nat.lt_or_ge i p with hil|hige
    · have hrv:=hrg k i hkl hil
      have hix:=aEn hkl hil
      have hA:=aEn hil hkl
      have gA:=aNk (l:=a) (i:=i*q+k) (by omega)
      have e1:(i:Int)*(q:Int)=((i*q:Nat):Int):=by simp
      have b1:0<=(i:Int)*(q:Int)/\(i:Int)*(q:Int)<=4096:=by rw [e1];omega
      rcases hst with ⟨h1,rfl⟩|⟨h1,rfl⟩
      · first
        |(exfalso;omega)
        |(
         repeat' first|refine sV ⟨?_⟩|refine sq (λh=>⟨?_⟩) λh=>⟨?_⟩|fail
         refine ⟨by decide +kernel,[0,1,0,4,0,0,32,96,224,496,0,2032,4092,8188,16380,32767,65535,131071],by decide +kernel,?_⟩
         repeat' first|refine sV ⟨?_⟩|refine sq (λh=>⟨?_⟩) λh=>⟨?_⟩|fail
         refine ⟨i*q+k,_,(by rw [e1];omega),gA,?_⟩
         repeat' first|refine sV ⟨?_⟩|refine sq (λh=>⟨?_⟩) λh=>⟨?_⟩|fail
         conv=>whnf
         refine ⟨Nat.le_of_ble_eq_true rfl,λh=>Nat.succ_ne_zero _ (congrArg List.length h),?_⟩
         repeat' first|refine sV ⟨?_⟩|refine sq (λh=>⟨?_⟩) λh=>⟨?_⟩|fail
         refine ⟨[0,1,2,3,5],p - (i+1),rfl,by omega,i+1,by omega,rfl,.inr ⟨by omega,?_⟩⟩
         have hone:aAj (r.take (k*p+(i+1)))=[[.str (aAw (atR a (i*q+k)))]]:=by
          have e1:k*p+(i+1)=1:=by omega
          rw [e1,aD6 (by omega),<-hrv];simp [h1]
         exact Eq.trans rfl (congrArg (λz:List (List AV)=>(⟨[(1,.bptr 0 0),(2,.bptr 1 0),(4,.bptr 2 0),(5,.int .i64 (k:Nat)),(31,.int .i64 (q:Nat)),(32,.int .i64 (k:Nat)),(38,.int .i64 (p:Nat)),(39,.int .i64 (i+1:Nat))],[.box 40 [.ro 1 (aAh [(p:Int),(q:Int)]),.ro 1 (aAj a)],.box 40 [.nils,.nils],.box 40 [.own 3 0 2,.own 4 0 (z).length],.row false 3 1 (aAh [(q:Int),(p:Int)]),.row false 9 1 (z)]⟩:St)) hone.symm))
      · have hsn:aAj (r.take (k*p+(i+1)))=List.take (aAj (r.take (k*p+i))).length (aAj (r.take (k*p+i)))++[[.str (aAw (atR a (i*q+k)))]]:=by
         rw [<- hrv,<-Nat.add_assoc,aDe (by omega)]
        repeat' first|refine sV ⟨?_⟩|refine sq (λh=>⟨?_⟩) λh=>⟨?_⟩|fail
        refine ⟨by decide +kernel,[0,1,0,4,0,0,32,96,224,496,0,2032,4092,8188,16380,32767,65535,131071],by decide +kernel,?_⟩
        repeat' first|refine sV ⟨?_⟩|refine sq (λh=>⟨?_⟩) λh=>⟨?_⟩|fail
        refine ⟨i*q+k,_,(by rw [e1];omega),gA,?_⟩
        repeat' first|refine sV ⟨?_⟩|refine sq (λh=>⟨?_⟩) λh=>⟨?_⟩|fail
        refine ⟨Nat.le_refl _,(show ((aAj (r.take (k*p+i))).length+1)*16<=140737488355328 by omega),_,hsn,?_⟩
        repeat' first|refine sV ⟨?_⟩|refine sq (λh=>⟨?_⟩) λh=>⟨?_⟩|fail
        all_goals exact ⟨[0,1,2,3,6],p - (i+1),rfl,by omega,i+1,by omega,rfl,.inr ⟨by omega,rfl⟩⟩
    · obtain rfl:p=i:=by omega
      rcases hst with ⟨h1,rfl⟩|⟨h1,rfl⟩
      · omega
      · repeat' first|refine sV ⟨?_⟩|refine sq (λh=>⟨?_⟩) λh=>⟨?_⟩|fail
        refine ⟨[0,1,2,3,4],q - (k+1),rfl,by omega,k+1,by omega,rfl,.inr ⟨by rw [Nat.add_mul];omega,?_⟩⟩
        exact Eq.trans rfl (congrArg (λn:Nat=>(⟨[(1,.bptr 0 0),(2,.bptr 1 0),(4,.bptr 2 0),(31,.int .i64 (q:Nat)),(32,.int .i64 (k+1:Nat))],[.box 40 [.ro 1 (aAh [(p:Int),(q:Int)]),.ro 1 (aAj a)],.box 40 [.nils,.nils],.box 40 [.own 3 0 2,.own 4 0 (aAj (r.take n)).length],.row false 3 1 (aAh [(q:Int),(p:Int)]),.row false 9 1 (aAj (r.take n))]⟩:St)) (show k*p+p=(k+1)*p by rw [Nat.add_mul];omega)))
 · obtain rfl:q=k:=by omega
   rcases hst with ⟨h0,rfl⟩|⟨h0,rfl⟩
   · exact absurd h0 (by have:=Nat.mul_pos (show 0<q by omega) (show 0<p by omega);omega)
   · repeat' first|refine sV ⟨?_⟩|refine sq (λh=>⟨?_⟩) λh=>⟨?_⟩|fail
     conv=>whnf
     have e:r.take (q*p)=r:=List.take_of_length_le (by omega)
     rw [e]
     exact ⟨_,aAf (aFo rfl rfl) rfl,rfl⟩
end Go.V
namespace Go.V
open Go.N Go.Proofs
set_option maxRecDepth 20000
def bQd:Tab:=[(32,i32),(9,i9)]
theorem bGx:TOK Tryz.prog bQd:=⟨K32,⟨K9,trivial⟩⟩
def bQm:Tab:=[(40,i40),(28,i28),(32,i32),(9,i9)]
theorem bG5:TOK Tryz.prog bQm:=⟨K40,⟨K28,⟨K32,⟨K9,trivial⟩⟩⟩⟩
def bHl:Tab:=[(40,i40),(4,i4),(27,i27),(3,i3),(32,i32),(9,i9)]
theorem aX3:TOK Tryz.prog bHl:=⟨K40,⟨K4,⟨K27,⟨K3,⟨K32,⟨K9,trivial⟩⟩⟩⟩⟩⟩
def bKt:Tab:=[(40,i40),(4,i4),(27,i27),(3,i3),(32,i32),(9,i9)]
theorem bBl:TOK Tryz.prog bKt:=⟨K40,⟨K4,⟨K27,⟨K3,⟨K32,⟨K9,trivial⟩⟩⟩⟩⟩⟩
def bVl:Tab:=[(40,i40),(27,i27),(3,i3),(4,i4),(9,i9),(32,i32)]
theorem bKm:TOK Tryz.prog bVl:=⟨K40,⟨K27,⟨K3,⟨K4,⟨K9,⟨K32,trivial⟩⟩⟩⟩⟩⟩
def bQj:Tab:=[(3,i3),(9,i9),(32,i32),(113,cX3)]
theorem bG2:TOK Tryz.prog bQj:=⟨K3,⟨K9,⟨K32,⟨cYa,trivial⟩⟩⟩⟩
def bYx:Tab:=[(113,cX3),(167,cRx),(170,cVk)]
theorem bP2:TOK Tryz.prog bYx:=⟨cYa,⟨cRy,⟨cVu,trivial⟩⟩⟩
def bQo:Tab:=[(170,cVk)]
theorem bG7:TOK Tryz.prog bQo:=⟨cVu,trivial⟩
theorem bRf (l:List ByteArray) (hll:l.length<1000000):aAc Tryz.prog GL 140 [.ro 1 (aCm l)] (λx=>x= .ro 1 (aCm l)):=by
 refine aAc.taken ?_
 have hlen:(aCm l).length=l.length:=rowS_length l
 refine vgo bGx Tryz.func140 ?_
 rcases l with _|⟨x,l⟩
 · repeat' first|refine sX ⟨?_⟩|(refine sp ?_ ?_<;>refine λh=>⟨?_⟩)|fail
   conv=>whnf
   refine ⟨?_,?_⟩
   · repeat' first|refine sX ⟨?_⟩|(refine sp ?_ ?_<;>refine λh=>⟨?_⟩)|fail
     conv=>whnf
     exact ⟨_,(show aC7 .nils (.ro 1 []) from ⟨1,rfl⟩),rfl⟩
   · repeat' first|refine sX ⟨?_⟩|(refine sp ?_ ?_<;>refine λh=>⟨?_⟩)|fail
     conv=>whnf
     refine ⟨Nat.le_refl _,Nat.le_of_ble_eq_true rfl,aCm [],rfl,?_⟩
     repeat' first|refine sX ⟨?_⟩|(refine sp ?_ ?_<;>refine λh=>⟨?_⟩)|fail
     conv=>whnf
     exact ⟨_,rfl,rfl⟩
 · repeat' first|refine sX ⟨?_⟩|(refine sp ?_ ?_<;>refine λh=>⟨?_⟩)|fail
   conv=>whnf
   refine ⟨Nat.le_refl _,(show (0+(aCm (x::l)).length)*16<=_ by omega),aCm (x::l),rfl,?_⟩
   repeat' first|refine sX ⟨?_⟩|(refine sp ?_ ?_<;>refine λh=>⟨?_⟩)|fail
   conv=>whnf
   exact ⟨_,rfl,rfl⟩
theorem bEw (v:List Rat) (hll:v.length<1000000):aAc Tryz.prog GL 140 [.ro 1 (aAj v)] (λx=>x= .ro 1 (aAj v)):=bRf (v.map aAw) (by rw [List.length_map];exact hll)
theorem bRl {s:List Int}{v:List Rat}(h:VT s v) (hs:∀k,k<=v.length->RS (aEf (v.take k))):aAc Tryz.prog GL 151 [aAs s v] (λy=>y= .tup [aAs [] [aEf v],.int .i64 0]):=by
 have h1:=bZr h hs
 refine aAc.taken ?_
 refine vgo bG5 Tryz.func151 ?_
 repeat' first|refine sV ⟨?_⟩|refine sq (λh=>⟨?_⟩) λh=>⟨?_⟩|fail
 conv=>whnf
 exact ⟨_,aAf (aFo (show aC7 .nils (.ro 1 []) from ⟨1,rfl⟩) rfl) rfl,rfl⟩
theorem bH3 {s t:List Int}{v:List Rat}(h:VT s v) (ht:aAl t=true) (hl:(v.length:Int)=aA8 t):aAc Tryz.prog GL 152 [aAs s v,.ro 1 (aAh t)] (λy=>y= .tup [aAs t v,.int .i64 0]):=by
 have h1:=aBp h
 have h2:=aCb GL t (by have:=aBg ht;omega)
 rw [ht] at h2
 have h3:=aE8 GL t (by have:=aBg ht;omega)
 rw [aDj,if_pos ht,<-hl] at h3
 have h4:=aGu GL t (by have:=aBg ht;omega)
 have h5:=bEw v (by have:=h.vl;omega)
 have hvl:=aAg v
 unfold aAs at h1 ⊢
 refine vgo aX3 Tryz.func152 ?_
 repeat' first|refine sV ⟨?_⟩|refine sq (λh=>⟨?_⟩) λh=>⟨?_⟩|fail
 refine ⟨by decide +kernel,[0,1,0,4,12,31,63],by decide +kernel,?_⟩
 repeat' first|refine sV ⟨?_⟩|refine sq (λh=>⟨?_⟩) λh=>⟨?_⟩|fail
 refine ⟨by decide +kernel,[0,1,0,4,15,31,63,127],by decide +kernel,?_⟩
 repeat' first|refine sV ⟨?_⟩|refine sq (λh=>⟨?_⟩) λh=>⟨?_⟩|fail
 all_goals (conv=>whnf)
 all_goals rfl
theorem aVi (n:Nat) (hn:n<4294967296){a:Int}(h:a=n):(n:Int)=IntKind.wrap .u64 ((a.toNat &&& (4294967295:Int).toNat:Nat):Int):=by
 rw [h,Int.toNat_natCast,show (4294967295:Int).toNat=2 ^ 32 - 1 from rfl,Nat.and_two_pow_sub_one_eq_mod,Nat.mod_eq_of_lt (by simpa using hn)]
 exact bYb (by omega) (by omega)
theorem aJp (n:Nat) (hn:n<4294967296){a:Int}(h:a=n):(0:Int)=Int.fdiv a (2 ^ (min (Int.toNat 32) (IntKind.bits .u64))):=by
 rw [<- aUo n h,Nat.div_eq_of_lt hn];rfl
theorem cCd {n:Nat}(hn:n<4294967296){a:Int}(h:a=n):a<2 ^ IntKind.bits .u64:=by
 rw [h,show (2:Int) ^ IntKind.bits .u64=18446744073709551616 by decide];omega
theorem bRm (n:Nat) (hn:n<4294967296):aAc Tryz.prog GL 128 [.int .u64 1,.int .u64 (n:Nat)] (λy=>y= .tup [.int .u64 0,.int .u64 (n:Nat)]):=by
 refine vgo bG7 Tryz.func128 ?_
 repeat' first|refine sV ⟨?_⟩|refine sq (λh=>⟨?_⟩) λh=>⟨?_⟩|fail
 conv=>whnf
 refine ⟨by omega,cCd (n:=1) (by omega) (by omega),by decide,by decide,((1:Nat):Int),aVi (1) (by omega) (by omega),?_⟩
 repeat' first|refine sV ⟨?_⟩|refine sq (λh=>⟨?_⟩) λh=>⟨?_⟩|fail
 conv=>whnf
 refine ⟨by decide,0,aJp (1) (by omega) (by omega),?_⟩
 repeat' first|refine sV ⟨?_⟩|refine sq (λh=>⟨?_⟩) λh=>⟨?_⟩|fail
 conv=>whnf
 refine ⟨by omega,cCd (n:=n) (by omega) (by omega),by decide,by decide,((n:Nat):Int),aVi (n) (by omega) (by omega),?_⟩
 repeat' first|refine sV ⟨?_⟩|refine sq (λh=>⟨?_⟩) λh=>⟨?_⟩|fail
 conv=>whnf
 refine ⟨by decide,0,aJp (n) (by omega) (by omega),?_⟩
 repeat' first|refine sV ⟨?_⟩|refine sq (λh=>⟨?_⟩) λh=>⟨?_⟩|fail
 conv=>whnf
 refine ⟨by decide,0,aJp (n) (by omega) (by omega),?_⟩
 repeat' first|refine sV ⟨?_⟩|refine sq (λh=>⟨?_⟩) λh=>⟨?_⟩|fail
 conv=>whnf
 refine ⟨by omega,cCd (n:=0) (by omega) (by omega),by decide,by decide,((0:Nat):Int),aVi (0) (by omega) (by omega),?_⟩
 repeat' first|refine sV ⟨?_⟩|refine sq (λh=>⟨?_⟩) λh=>⟨?_⟩|fail
 conv=>whnf
 refine ⟨by decide,0,aJp (0) (by omega) (by omega),?_⟩
 repeat' first|refine sV ⟨?_⟩|refine sq (λh=>⟨?_⟩) λh=>⟨?_⟩|fail
 conv=>whnf
 refine ⟨by decide,0,aJp (0) (by omega) (by omega),?_⟩
 repeat' first|refine sV ⟨?_⟩|refine sq (λh=>⟨?_⟩) λh=>⟨?_⟩|fail
 conv=>whnf
 show AV.tup [.int .u64 (0*0+0+0),.int .u64 (1*(n:Int))]=_
 rw [Int.one_mul];rfl
theorem bZk (n:Nat) (hn:n<4294967296):aAc Tryz.prog GL 73 [.int .u64 1,.int .u64 (n:Nat)] (λy=>y= .tup [.int .u64 0,.int .u64 (n:Nat)]):=by
 have h:=bRm n hn
 refine vgo bP2 Tryz.func73 ?_
 repeat' first|refine sV ⟨?_⟩|refine sq (λh=>⟨?_⟩) λh=>⟨?_⟩|fail
 all_goals (conv=>whnf)
 all_goals rfl
theorem bS4 {α:Type}(x z:α) (j n m:Nat) (hm:m<=j) (hj:j+m<=n):
 List.replicate (j+m) x++List.replicate (n - (j+m)) z=List.take j (List.replicate j x++List.replicate (n - j) z)++List.take m (List.take j (List.drop 0 (List.replicate j x++List.replicate (n - j) z)))++List.drop (j+m) (List.replicate j x++List.replicate (n - j) z):=by
 have h1:(List.replicate j x).length=j:=List.length_replicate
 rw [List.drop_zero,List.take_left' h1,List.drop_append,h1,List.drop_eq_nil_of_le (by rw [h1];omega),List.nil_append,List.take_replicate,List.drop_replicate,<-List.replicate_append_replicate,Nat.min_eq_left hm,show n - j - (j+m - j)=n - (j+m) by omega]
set_option maxHeartbeats 1000000 in
theorem bRj (k:ByteArray) (n:Nat) (hn0:1<=n) (hn:n<=64):aAc Tryz.prog GL 75 [.ro 1 [[.str k]],.int .i64 (n:Nat)] (λy=>y= .ro 1 (List.replicate n [.str k])):=by
 have h:=bZk n (by omega)
 refine aAc.taken ?_
 refine vgo bG2 Tryz.func75 ?_
 repeat' first|refine sV ⟨?_⟩|refine sq (λh=>⟨?_⟩) λh=>⟨?_⟩|fail
 refine ⟨by omega,Int.le_refl _,by omega,(show (n:Int)*((16:Nat):Int)<=140737488355328 by omega),n,rfl,?_⟩
 repeat' first|refine sV ⟨?_⟩|refine sq (λh=>⟨?_⟩) λh=>⟨?_⟩|fail
 conv=>whnf
 refine ⟨(show 0+min 1 n<=(List.replicate n [AV.str ⟨#[]⟩]).length by rw [List.length_replicate];omega),List.replicate 1 [AV.str k]++List.replicate (n - 1) [AV.str ⟨#[]⟩],?_,?_⟩
 · show _=List.take 0 (List.replicate n [AV.str ⟨#[]⟩])++List.take (min 1 n) [[AV.str k]]++List.drop (0+min 1 n) (List.replicate n [AV.str ⟨#[]⟩])
   rw [Nat.min_eq_left hn0,Nat.zero_add,List.drop_replicate];rfl
 repeat' first|refine sV ⟨?_⟩|refine sq (λh=>⟨?_⟩) λh=>⟨?_⟩|fail
 refine ⟨[7,8],[0],λm st=>∃j:Nat,1<=j/\j<=n/\m=n - j/\st=⟨[(7,.own 0 0 n),(8,.int .i64 (j:Nat))],[.row false 9 1 (List.replicate j [.str k]++List.replicate (n - j) [.str ⟨#[]⟩])]⟩,rfl,
  ⟨n - 1,1,by omega,hn0,rfl,by
    refine (show St.keep _ _ _=(⟨[(7,.own 0 0 n),(8,.int .i64 ((min 1 n:Nat):Int))],[.row false 9 1 (List.replicate 1 [.str k]++List.replicate (n - 1) [.str ⟨#[]⟩])]⟩:St) from rfl).trans ?_
    rw [Nat.min_eq_left hn0]⟩,?_⟩
 rintro m _ ⟨j,hj1,hj,hm,rfl⟩
 rcases Nat.lt_or_ge j n with hjn|hge
 · repeat' first|refine sV ⟨?_⟩|refine sq (λh=>⟨?_⟩) λh=>⟨?_⟩|fail
   refine ⟨by decide +kernel,[0,0,0,6,0,0,48,126,255,511],by decide +kernel,?_⟩
   repeat' first|refine sV ⟨?_⟩|refine sq (λh=>⟨?_⟩) λh=>⟨?_⟩|fail
   conv=>whnf
   refine ⟨by omega,by omega,Int.le_refl _,by omega,j,n - j,by omega,by omega,?_⟩
   repeat' first|refine sV ⟨?_⟩|refine sq (λh=>⟨?_⟩) λh=>⟨?_⟩|fail
   conv=>whnf
   refine ⟨Int.le_refl _,by omega,by omega,.inl rfl,0,j,rfl,by omega,?_⟩
   have hlen:(List.take j (List.drop 0 (List.replicate j [AV.str k]++List.replicate (n - j) [AV.str ⟨#[]⟩]))).length=j:=by rw [List.drop_zero,List.length_take,List.length_append,List.length_replicate,List.length_replicate];omega
   have hblt:Nat.blt 0 (List.take j (List.drop 0 (List.replicate j [AV.str k]++List.replicate (n - j) [AV.str ⟨#[]⟩]))).length=true:=by rw [hlen];simpa [Nat.blt] using hj1
   repeat' first|refine sV ⟨?_⟩|refine sq (λh=>⟨?_⟩) λh=>⟨?_⟩|fail
   all_goals first|(exact absurd (show (true && true && Nat.blt 0 _)=false from h) (by rw [hblt];decide))|skip
   conv=>whnf
   refine ⟨(show j+min (List.take j (List.drop 0 (List.replicate j [AV.str k]++List.replicate (n - j) [AV.str ⟨#[]⟩]))).length (n - j)<=(List.replicate j [AV.str k]++List.replicate (n - j) [AV.str ⟨#[]⟩]).length by rw [hlen,List.length_append,List.length_replicate,List.length_replicate];omega),
    List.replicate (j+min j (n - j)) [AV.str k]++List.replicate (n - (j+min j (n - j))) [AV.str ⟨#[]⟩],?_,?_⟩
   · refine (bS4 [AV.str k] [AV.str ⟨#[]⟩] j n (min j (n - j)) (by omega) (by omega)).trans ?_
     rw [hlen]
   repeat' first|refine sV ⟨?_⟩|refine sq (λh=>⟨?_⟩) λh=>⟨?_⟩|fail
   refine ⟨[0],n - (j+min j (n - j)),rfl,by omega,j+min j (n - j),by omega,by omega,rfl,?_⟩
   refine (show St.keep _ _ _=(⟨[(7,.own 0 0 n),(8,.int .i64 ((j:Int)+((min (List.take j (List.drop 0 (List.replicate j [AV.str k]++List.replicate (n - j) [AV.str ⟨#[]⟩]))).length (n - j):Nat):Int)))],
    [.row false 9 1 (List.replicate (j+min j (n - j)) [.str k]++List.replicate (n - (j+min j (n - j))) [.str ⟨#[]⟩])]⟩:St) from rfl).trans ?_
   rw [hlen,<-Int.natCast_add]
 · obtain rfl:n=j:=by omega
   repeat' first|refine sV ⟨?_⟩|refine sq (λh=>⟨?_⟩) λh=>⟨?_⟩|fail
   conv=>whnf
   refine .inr (.inl ⟨_,rfl,?_⟩)
   show AV.ro 1 (List.take n (List.replicate n [AV.str k]++List.replicate (n - n) [AV.str ⟨#[]⟩]))=_
   rw [List.take_left' List.length_replicate]
theorem bWa {s:List Int}(hs:aAl s=true){x:Rat}(hx:RS x) (m:Nat) (hm:aA8 s=((m+1:Nat):Int)):aAc Tryz.prog GL 194 [.ro 1 (aAh s),.str (aAw x)] (λy=>y= .tup [aAs s (List.replicate (m+1) x),.int .i64 0]):=by
 have h1:=aCb GL s (by have:=aBg hs;omega)
 rw [hs] at h1
 have h2:=aY5 hx
 have h3:=aGu GL s (by have:=aBg hs;omega)
 have h4:=aE8 GL s (by have:=aBg hs;omega)
 rw [aDj,if_pos hs,hm] at h4
 have hmid:=aD8 hs s.length
 rw [List.take_length,hm] at hmid
 have h5:=bRj (aAw x) (m+1) (by omega) (by omega)
 have e:aAj (List.replicate (m+1) x)=List.replicate (m+1) [.str (aAw x)]:=by unfold aAj aCm;rw [List.map_replicate,List.map_replicate]
 rw [aAs,e]
 refine aAc.taken ?_
 refine vgo bKm Tryz.func194 ?_
 repeat' first|refine sV ⟨?_⟩|refine sq (λh=>⟨?_⟩) λh=>⟨?_⟩|fail
 all_goals (conv=>whnf)
 all_goals exact ⟨_,aAf (aFo rfl rfl) rfl,rfl⟩
theorem bLy {s:List Int}(hs:aAl s=true){x:Rat}(hx:RS x) (m:Nat) (hm:aA8 s=((m+1:Nat):Int)):aAc Tryz.prog GL 153 [aAs [] [x],.ro 1 (aAh s)] (λy=>y= .tup [aAs s (List.replicate (m+1) x),.int .i64 0]):=by
 have h1:=aBp (s:=[]) (v:=[x]) ⟨by decide,by simp [aA8],λy hy=>by rw [List.mem_singleton.1 hy];exact hx⟩
 have h2:=aCb GL s (by have:=aBg hs;omega)
 rw [hs] at h2
 have h3:=bWa hs hx m hm
 refine aAc.taken ?_
 refine vgo bBl Tryz.func153 ?_
 repeat' first|refine sV ⟨?_⟩|refine sq (λh=>⟨?_⟩) λh=>⟨?_⟩|fail
 all_goals (conv=>whnf)
 all_goals exact ⟨_,aAf (aFo rfl rfl) rfl,rfl⟩
end Go.V
namespace Go.V
open Go.N Go.Proofs
set_option maxRecDepth 20000
end Go.V
namespace Go.V
open Go.N Go.Proofs
set_option maxRecDepth 20000
end Go.V
namespace Go.V
open Go.N Go.Proofs
set_option maxRecDepth 20000
end Go.V
namespace Go.V
open Go.N Go.Proofs
set_option maxRecDepth 20000
end Go.V
namespace Go.V
open Go.N Go.Proofs
set_option maxRecDepth 20000
def bY8:Tab:=[(40,i40),(213,cYv),(94,i94),(4,i4),(27,i27),(3,i3),(95,i95)]
theorem aVa:TOK Tryz.prog bY8:=⟨K40,⟨cYy,⟨K94,⟨K4,⟨K27,⟨K3,⟨K95,trivial⟩⟩⟩⟩⟩⟩⟩
def bVm:Tab:=[(94,i94),(40,i40),(32,i32),(9,i9)]
theorem bKn:TOK Tryz.prog bVm:=⟨K94,⟨K40,⟨K32,⟨K9,trivial⟩⟩⟩⟩
theorem bDq (f:FuncId) (i:Nat) (x:ByteArray) (s:List Int) (b:List Rat) (z:ByteArray) (hi:i<b.length) (hf:aAc Tryz.prog GL f [.str x,.str (aAw b[i])] (λy=>y= .tup [.str z,.int .i64 0])):
 aAc Tryz.prog GL 186 [.int .i64 (i:Nat),.str x,.rp [.fn f []],.rp [.ro 1 (aAh s),.ro 1 (aAj b)]] (λy=>y= .tup [.str z,.int .i64 0]):=by
 have g:(aAj b)[i]? =some [.str (aAw b[i])]:=aEq hi
 refine vgo bKn Tryz.func186 ?_
 repeat' first|refine sV ⟨?_⟩|refine sq (λh=>⟨?_⟩) λh=>⟨?_⟩|fail
 refine ⟨by decide +kernel,[0,0,0,4,0,28,60,127,255,255,1023,2047],by decide +kernel,?_⟩
 repeat' first|refine sV ⟨?_⟩|refine sq (λh=>⟨?_⟩) λh=>⟨?_⟩|fail
 all_goals (conv=>whnf)
 all_goals rfl
theorem bMl {s:List Int}{a b:List Rat}(ha:VT s a) (hb:VT s b):aAc Tryz.prog GL 141 [.str bBe,aAs s a,aAs s b] (λy=>y= .tup [aAs s (List.zipWith (λx y=>x+y) a b),.int .i64 0]):=by
 have h1:=aBp ha
 have h2:=aBp hb
 have h3:=aC4 GL s s (by have:=ha.sl;omega) (by have:=ha.sl;omega)
 rw [decide_eq_true rfl] at h3
 have hl:b.length=a.length:=by have:=ha.len;have:=hb.len;omega
 have h4:=aVx 186 [.fn 184 []] [.ro 1 (aAh s),.ro 1 (aAj b)] s a (List.zipWith (λx y=>x+y) a b) (by have:=ha.sl;omega) (by have:=ha.vl;omega) (by simp;omega)
  (λi hi=>bDq _ i _ s b _ (by omega) (by rw [List.getElem_zipWith];exact aY4 (ha.rs _ (List.getElem_mem hi)) (hb.rs _ (List.getElem_mem _))))
 refine aAc.taken ?_
 refine vgo aVa Tryz.func141 ?_
 repeat' first|refine sV ⟨?_⟩|refine sq (λh=>⟨?_⟩) λh=>⟨?_⟩|fail
 refine ⟨.fn 184 [],true,by rfl,by rfl,?_⟩
 repeat' first|refine sV ⟨?_⟩|refine sq (λh=>⟨?_⟩) λh=>⟨?_⟩|fail
 conv=>whnf
 rintro _ ⟨z,hz,rfl⟩
 have hfl:=aQi hz
 rcases hz with rfl|⟨hs0,rfl⟩
 · conv=>whnf
   refine ⟨false,hfl,?_⟩
   repeat' first|refine sV ⟨?_⟩|refine sq (λh=>⟨?_⟩) λh=>⟨?_⟩|fail
   conv=>whnf
   exact ⟨_,aAf (aFo rfl rfl) rfl,rfl⟩
 · conv=>whnf
   refine ⟨false,hfl,?_⟩
   repeat' first|refine sV ⟨?_⟩|refine sq (λh=>⟨?_⟩) λh=>⟨?_⟩|fail
   conv=>whnf
   exact ⟨_,aAf (aFo (show aC7 .nils (.ro 1 (aAh s)) from ⟨1,by rw [hs0];rfl⟩) rfl) rfl,rfl⟩
theorem aZk {s:List Int}{a b:List Rat}(ha:VT s a) (hb:VT s b):aAc Tryz.prog GL 141 [.str bI2,aAs s a,aAs s b] (λy=>y= .tup [aAs s (List.zipWith (λx y=>x - y) a b),.int .i64 0]):=by
 have h1:=aBp ha
 have h2:=aBp hb
 have h3:=aC4 GL s s (by have:=ha.sl;omega) (by have:=ha.sl;omega)
 rw [decide_eq_true rfl] at h3
 have hl:b.length=a.length:=by have:=ha.len;have:=hb.len;omega
 have h4:=aVx 186 [.fn 185 []] [.ro 1 (aAh s),.ro 1 (aAj b)] s a (List.zipWith (λx y=>x - y) a b) (by have:=ha.sl;omega) (by have:=ha.vl;omega) (by simp;omega)
  (λi hi=>bDq _ i _ s b _ (by omega) (by rw [List.getElem_zipWith];exact bLt (ha.rs _ (List.getElem_mem hi)) (hb.rs _ (List.getElem_mem _))))
 refine aAc.taken ?_
 refine vgo aVa Tryz.func141 ?_
 repeat' first|refine sV ⟨?_⟩|refine sq (λh=>⟨?_⟩) λh=>⟨?_⟩|fail
 refine ⟨.fn 185 [],true,by rfl,by rfl,?_⟩
 repeat' first|refine sV ⟨?_⟩|refine sq (λh=>⟨?_⟩) λh=>⟨?_⟩|fail
 conv=>whnf
 rintro _ ⟨z,hz,rfl⟩
 have hfl:=aQi hz
 rcases hz with rfl|⟨hs0,rfl⟩
 · conv=>whnf
   refine ⟨false,hfl,?_⟩
   repeat' first|refine sV ⟨?_⟩|refine sq (λh=>⟨?_⟩) λh=>⟨?_⟩|fail
   conv=>whnf
   exact ⟨_,aAf (aFo rfl rfl) rfl,rfl⟩
 · conv=>whnf
   refine ⟨false,hfl,?_⟩
   repeat' first|refine sV ⟨?_⟩|refine sq (λh=>⟨?_⟩) λh=>⟨?_⟩|fail
   conv=>whnf
   exact ⟨_,aAf (aFo (show aC7 .nils (.ro 1 (aAh s)) from ⟨1,by rw [hs0];rfl⟩) rfl) rfl,rfl⟩
theorem bMm {s:List Int}{a b:List Rat}(ha:VT s a) (hb:VT s b):aAc Tryz.prog GL 141 [.str bI1,aAs s a,aAs s b] (λy=>y= .tup [aAs s (List.zipWith (λx y=>x*y) a b),.int .i64 0]):=by
 have h1:=aBp ha
 have h2:=aBp hb
 have h3:=aC4 GL s s (by have:=ha.sl;omega) (by have:=ha.sl;omega)
 rw [decide_eq_true rfl] at h3
 have hl:b.length=a.length:=by have:=ha.len;have:=hb.len;omega
 have h4:=aVx 186 [.fn 61 []] [.ro 1 (aAh s),.ro 1 (aAj b)] s a (List.zipWith (λx y=>x*y) a b) (by have:=ha.sl;omega) (by have:=ha.vl;omega) (by simp;omega)
  (λi hi=>bDq _ i _ s b _ (by omega) (by rw [List.getElem_zipWith];exact aTs (ha.rs _ (List.getElem_mem hi)) (hb.rs _ (List.getElem_mem _))))
 refine aAc.taken ?_
 refine vgo aVa Tryz.func141 ?_
 repeat' first|refine sV ⟨?_⟩|refine sq (λh=>⟨?_⟩) λh=>⟨?_⟩|fail
 refine ⟨.fn 61 [],true,by rfl,by rfl,?_⟩
 repeat' first|refine sV ⟨?_⟩|refine sq (λh=>⟨?_⟩) λh=>⟨?_⟩|fail
 conv=>whnf
 rintro _ ⟨z,hz,rfl⟩
 have hfl:=aQi hz
 rcases hz with rfl|⟨hs0,rfl⟩
 · conv=>whnf
   refine ⟨false,hfl,?_⟩
   repeat' first|refine sV ⟨?_⟩|refine sq (λh=>⟨?_⟩) λh=>⟨?_⟩|fail
   conv=>whnf
   exact ⟨_,aAf (aFo rfl rfl) rfl,rfl⟩
 · conv=>whnf
   refine ⟨false,hfl,?_⟩
   repeat' first|refine sV ⟨?_⟩|refine sq (λh=>⟨?_⟩) λh=>⟨?_⟩|fail
   conv=>whnf
   exact ⟨_,aAf (aFo (show aC7 .nils (.ro 1 (aAh s)) from ⟨1,by rw [hs0];rfl⟩) rfl) rfl,rfl⟩
end Go.V
namespace Go.V
open Go.N Go.Proofs
set_option maxRecDepth 20000
def aBn (op:ByteArray) (A B:Int) (name:ByteArray) (shape:List Int) (k:ByteArray) (n:Int) (data:List ByteArray):AV:=
 .agg [.str op,.int .i64 A,.int .i64 B,.str name,.ro 1 (aAh shape),.str k,.int .i64 n,.ro 1 (aCm data)]
section
variable (A B:Int) (name:ByteArray) (shape:List Int) (k:ByteArray) (n:Int) (data:List ByteArray)
end
end Go.V
namespace Go.V
open Go.N Go.Proofs
set_option maxRecDepth 20000
def bQq:Tab:=[(34,i34),(40,i40),(9,i9),(27,i27),(3,i3),(32,i32),(4,i4)]
theorem aBj:TOK Tryz.prog bQq:=⟨K34,⟨K40,⟨K9,⟨K27,⟨K3,⟨K32,⟨K4,trivial⟩⟩⟩⟩⟩⟩⟩
def bU7:Tab:=[(34,i34),(40,i40),(28,i28),(27,i27),(3,i3),(4,i4)]
theorem bKb:TOK Tryz.prog bU7:=⟨K34,⟨K40,⟨K28,⟨K27,⟨K3,⟨K4,trivial⟩⟩⟩⟩⟩⟩
inductive FitV:Opc->List Int->ByteArray->Int->List ByteArray->List Int->List Rat->List Int->List Rat->List Rat->Prop
 |const {s k n sa a sb b v} (h:VT s v):FitV .const s k n (v.map aAw) sa a sb b v
 |add {s k n d a b} (ha:VT s a) (hb:VT s b) (hr:∀x∈List.zipWith (λx y=>x+y) a b,RS x):FitV .add s k n d s a s b (List.zipWith (λx y=>x+y) a b)
 |sub {s k n d a b} (ha:VT s a) (hb:VT s b) (hr:∀x∈List.zipWith (λx y=>x - y) a b,RS x):FitV .sub s k n d s a s b (List.zipWith (λx y=>x - y) a b)
 |mul {s k n d a b} (ha:VT s a) (hb:VT s b) (hr:∀x∈List.zipWith (λx y=>x*y) a b,RS x):FitV .mul s k n d s a s b (List.zipWith (λx y=>x*y) a b)
 |max {s k n d a b} (ha:VT s a) (hb:VT s b) (hd:∀i (h:i<a.length),RS (a[i] - b[i]'(by have:=ha.len;have:=hb.len;omega))) (hr:∀x∈List.zipWith bDz a b,RS x):FitV .max s k n d s a s b (List.zipWith bDz a b)
 |above {s k n d a b} (ha:VT s a) (hb:VT s b) (hd:∀i (h:i<a.length),RS (a[i] - b[i]'(by have:=ha.len;have:=hb.len;omega))) (hr:∀x∈List.zipWith aF3 a b,RS x):FitV .above s k n d s a s b (List.zipWith aF3 a b)
 |matmul {k n d} {p q c:Nat} {a b} (ha:VT [(p:Int),(q:Int)] a) (hb:VT [(q:Int),(c:Int)] b) (hok:aAl [(p:Int),(c:Int)]=true)
   (hm:∀i k j,i<p->k<c->j<q->RS (atR a (i*q+j)*atR b (j*c+k))) (hs:∀i k j,i<p->k<c->j<=q->RS (aEf ((aCv q c a b i k).take j))):
   FitV .matmul [(p:Int),(c:Int)] k n d [(p:Int),(q:Int)] a [(q:Int),(c:Int)] b (bIu p q c a b)
 |relu {s k n d a sb b} (ha:VT s a):FitV .relu s k n d s a sb b (a.map aIh)
 |abs {s k n d a sb b} (ha:VT s a):FitV .abs s k n d s a sb b (a.map aVh)
 |step {s k n d a sb b} (ha:VT s a):FitV .step s k n d s a sb b (a.map aIl)
 |sign {s k n d a sb b} (ha:VT s a):FitV .sign s k n d s a sb b (a.map aIi)
 |scale {s n d a sb b} {kk:Rat} (ha:VT s a) (hk:RS kk) (hr:∀x∈a,RS (x*kk)) (hs:∀k,k<=a.length->RS (aEf (a.take k))):FitV .scale s (aAw kk) n d s a sb b (a.map λx=>x*kk)
 |power {s k d a sb b} {nn:Nat} (hk:k.size<190000) (ha:VT s a) (hn:nn<=6) (hp:∀x∈a,∀j,j<=nn->RS (x ^ j)) (hs:∀k,k<=a.length->RS (aEf (a.take k))):FitV .power s k (nn:Nat) d s a sb b (a.map λx=>x ^ nn)
 |transpose {k n d sb b} {p q:Nat} {a} (ha:VT [(p:Int),(q:Int)] a):FitV .transpose [(q:Int),(p:Int)] k n d [(p:Int),(q:Int)] a sb b (aG7 p q a)
 |sum {k n d sa a sb b} (hk:k.size<190000) (ha:VT sa a) (hs:∀k,k<=a.length->RS (aEf (a.take k))):FitV .sum [] k n d sa a sb b [aEf a]
 |reshape {s k n d sa a sb b} (ha:VT sa a) (hok:aAl s=true) (hl:(a.length:Int)=aA8 s):FitV .reshape s k n d sa a sb b a
 |spread {s k n d sb b} {x:Rat} {m:Nat} (hk:k.size<190000) (hx:RS x) (hok:aAl s=true) (hm:aA8 s=((m+1:Nat):Int)):FitV .spread s k n d [] [x] sb b (List.replicate (m+1) x)
theorem cA4 (s:List Int) (v:List Rat):aAs s v=aEv s (v.map aAw):=rfl
section
variable (A B:Int) (name:ByteArray)
set_option maxHeartbeats 8000000 in
theorem bRo {o:Opc}{s:List Int}{k:ByteArray}{n:Int}{d:List ByteArray}{sa:List Int}{a:List Rat}{sb:List Int}{b r:List Rat}(h:FitV o s k n d sa a sb b r):
 aAc Tryz.prog GL 108 [aBn o.str A B name s k n d,aAs sa a,aAs sb b] (λy=>y= .tup [aAs s r,.int .i64 0]):=by
 cases h with
 |const h=>
  have h1:=aGu GL s (by have:=h.sl;omega)
  have h2:=bEw r (by have:=h.vl;omega)
  have h3:=aBp h
  rw [cA4] at h3
  unfold aAj at h2
  unfold aBn aAs aAj
  unfold aEv at h3
  refine vgo aBj Tryz.func108 ?_
  repeat' first|refine sV ⟨?_⟩|refine sq (λh=>⟨?_⟩) λh=>⟨?_⟩|fail
  refine ⟨by decide +kernel,[0,1,3,0,8,31,63,0,255],by decide +kernel,?_⟩
  repeat' first|refine sV ⟨?_⟩|refine sq (λh=>⟨?_⟩) λh=>⟨?_⟩|fail
  all_goals (conv=>whnf)
  all_goals rfl
 |add ha hb hr=>
  have h:=bMl ha hb
  unfold aBn
  unfold aAs at h ⊢
  refine vgo aBj Tryz.func108 ?_
  repeat' first|refine sV ⟨?_⟩|refine sq (λh=>⟨?_⟩) λh=>⟨?_⟩|fail
  all_goals (conv=>whnf)
  all_goals rfl
 |sub ha hb hr=>
  have h:=aZk ha hb
  unfold aBn
  unfold aAs at h ⊢
  refine vgo aBj Tryz.func108 ?_
  repeat' first|refine sV ⟨?_⟩|refine sq (λh=>⟨?_⟩) λh=>⟨?_⟩|fail
  all_goals (conv=>whnf)
  all_goals rfl
 |mul ha hb hr=>
  have h:=bMm ha hb
  unfold aBn
  unfold aAs at h ⊢
  refine vgo aBj Tryz.func108 ?_
  repeat' first|refine sV ⟨?_⟩|refine sq (λh=>⟨?_⟩) λh=>⟨?_⟩|fail
  all_goals (conv=>whnf)
  all_goals rfl
 |max ha hb hd hr=>
  have h:=bZn ha hb hd
  unfold aBn
  unfold aAs at h ⊢
  refine vgo aBj Tryz.func108 ?_
  repeat' first|refine sV ⟨?_⟩|refine sq (λh=>⟨?_⟩) λh=>⟨?_⟩|fail
  all_goals (conv=>whnf)
  all_goals rfl
 |above ha hb hd hr=>
  have h:=bRs ha hb hd
  unfold aBn
  unfold aAs at h ⊢
  refine vgo aBj Tryz.func108 ?_
  repeat' first|refine sV ⟨?_⟩|refine sq (λh=>⟨?_⟩) λh=>⟨?_⟩|fail
  all_goals (conv=>whnf)
  all_goals rfl
 |matmul ha hb hok hm hs=>
  have h:=bLx _ _ _ ha hb hok hm hs
  unfold aBn
  unfold aAs at h ⊢
  refine vgo aBj Tryz.func108 ?_
  repeat' first|refine sV ⟨?_⟩|refine sq (λh=>⟨?_⟩) λh=>⟨?_⟩|fail
  all_goals (conv=>whnf)
  all_goals rfl
 |relu ha=>
  have h:=bV3 ha
  unfold aBn
  unfold aAs at h ⊢
  refine vgo aBj Tryz.func108 ?_
  repeat' first|refine sV ⟨?_⟩|refine sq (λh=>⟨?_⟩) λh=>⟨?_⟩|fail
  all_goals (conv=>whnf)
  all_goals rfl
 |abs ha=>
  have h:=bZm ha
  unfold aBn
  unfold aAs at h ⊢
  refine vgo aBj Tryz.func108 ?_
  repeat' first|refine sV ⟨?_⟩|refine sq (λh=>⟨?_⟩) λh=>⟨?_⟩|fail
  all_goals (conv=>whnf)
  all_goals rfl
 |step ha=>
  have h:=bV5 ha
  unfold aBn
  unfold aAs at h ⊢
  refine vgo aBj Tryz.func108 ?_
  repeat' first|refine sV ⟨?_⟩|refine sq (λh=>⟨?_⟩) λh=>⟨?_⟩|fail
  all_goals (conv=>whnf)
  all_goals rfl
 |sign ha=>
  have h:=bV4 ha
  unfold aBn
  unfold aAs at h ⊢
  refine vgo aBj Tryz.func108 ?_
  repeat' first|refine sV ⟨?_⟩|refine sq (λh=>⟨?_⟩) λh=>⟨?_⟩|fail
  all_goals (conv=>whnf)
  all_goals rfl
 |scale ha hk hr hs=>
  have h:=bRy ha hk
  unfold aBn
  unfold aAs at h ⊢
  refine vgo aBj Tryz.func108 ?_
  repeat' first|refine sV ⟨?_⟩|refine sq (λh=>⟨?_⟩) λh=>⟨?_⟩|fail
  all_goals (conv=>whnf)
  all_goals rfl
 |power hk ha hn hp hs=>
  have h:=bRx _ hn ha hp
  unfold aBn
  unfold aAs at h ⊢
  refine vgo aBj Tryz.func108 ?_
  repeat' first|refine sV ⟨?_⟩|refine sq (λh=>⟨?_⟩) λh=>⟨?_⟩|fail
  all_goals (conv=>whnf)
  all_goals rfl
 |transpose ha=>
  have h:=aZa _ _ ha
  unfold aBn
  unfold aAs at h ⊢
  refine vgo aBj Tryz.func108 ?_
  repeat' first|refine sV ⟨?_⟩|refine sq (λh=>⟨?_⟩) λh=>⟨?_⟩|fail
  all_goals (conv=>whnf)
  all_goals rfl
 |sum hk ha hs=>
  have h:=bRl ha hs
  unfold aBn
  unfold aAs at h ⊢
  refine vgo aBj Tryz.func108 ?_
  repeat' first|refine sV ⟨?_⟩|refine sq (λh=>⟨?_⟩) λh=>⟨?_⟩|fail
  all_goals (conv=>whnf)
  all_goals rfl
 |reshape ha hok hl=>
  have h:=bH3 ha hok hl
  unfold aBn
  unfold aAs at h ⊢
  refine vgo aBj Tryz.func108 ?_
  repeat' first|refine sV ⟨?_⟩|refine sq (λh=>⟨?_⟩) λh=>⟨?_⟩|fail
  all_goals (conv=>whnf)
  all_goals rfl
 |spread hk hx hok hm=>
  have h:=bLy hok hx _ hm
  unfold aBn
  unfold aAs at h ⊢
  refine vgo aBj Tryz.func108 ?_
  repeat' first|refine sV ⟨?_⟩|refine sq (λh=>⟨?_⟩) λh=>⟨?_⟩|fail
  all_goals (conv=>whnf)
  all_goals rfl
theorem FitV.shape {o:Opc}{s:List Int}{k:ByteArray}{n:Int}{d:List ByteArray}{sa:List Int}{a:List Rat}{sb:List Int}{b r:List Rat}(h:FitV o s k n d sa a sb b r):aAl s=true:=by
 cases h<;>first|assumption|exact VT.ok (by assumption)|decide|skip
 rename_i p q ha
 have h1:=ha.ok
 simp only [aAl,Bool.and_eq_true,decide_eq_true_eq,List.all_cons,List.all_nil,aA8,List.foldl_cons,List.foldl_nil,Int.one_mul,Bool.and_true] at h1 ⊢
 exact ⟨⟨h1.1.1,h1.1.2.2,h1.1.2.1⟩,by rw [Int.mul_comm];exact h1.2⟩
theorem bDc {o:Opc}{s:List Int}{k:ByteArray}{n:Int}{d:List ByteArray}{sa:List Int}{a:List Rat}{sb:List Int}{b r:List Rat}(h:FitV o s k n d sa a sb b r):
 aAc Tryz.prog GL 53 [aBn o.str A B name s k n d,aAs sa a,aAs sb b] (λy=>y= .tup [aAs s r,.int .i64 0]):=by
 have h1:=bRo A B name h
 have hl:=aBg h.shape
 have h2:=aC4 GL s s (by omega) (by omega)
 rw [decide_eq_true rfl] at h2
 unfold aBn aAs at h1 ⊢
 refine vgo bKb Tryz.func53 ?_
 repeat' first|refine sV ⟨?_⟩|refine sq (λh=>⟨?_⟩) λh=>⟨?_⟩|fail
 all_goals (conv=>whnf)
 all_goals rfl
end
end Go.V
namespace Go.V
open Go.N Go.Proofs
set_option maxRecDepth 20000
theorem cA5:∀(e n:Nat),e<=n->10 ^ e<=10 ^ n:=λe n h=>Nat.pow_le_pow_right (by decide) h
theorem bYi {n:Nat}(h:n=45000):TOP=10 ^ n:=by subst h;unfold TOP;rfl
theorem bUq {e:Nat}(h:e<=45000):10 ^ e<=TOP:=by
 obtain ⟨n,hn⟩:∃n:Nat,n=45000:=⟨_,rfl⟩
 rw [bYi hn]
 exact cA5 e n (by omega)
theorem aG9 {x:Rat}{e:Nat}(h:MM x<=10 ^ e) (he:e<=45000):RS x:=⟨Nat.le_trans h (bUq he)⟩
theorem aG6 {a b:Nat}(h:a<=b):10 ^ a<=10 ^ b:=Nat.pow_le_pow_right (by decide) h
theorem aNo {e:Nat}(h:1<=e):2<=10 ^ e:=Nat.le_trans (by decide) (aG6 h)
theorem aJs {x y E F:Nat}(hx:x<=10 ^ E) (hy:y<=10 ^ F):x*y<=10 ^ (E+F):=by rw [Nat.pow_add];exact Nat.mul_le_mul hx hy
theorem bOv {l:List Rat}{E:Nat}(N:Nat) (h:∀y∈l,MM y<=10 ^ E) (hl:l.length*E<=N) (hN:1<=N) (hN2:N<=45000):∀k,k<=l.length->RS (aEf (l.take k)):=λk hk=>by
 refine aG9 (e:=N) (aMr (C:=10 ^ N) h ?_ (aNo hN) k hk) hN2
 rw [<- Nat.pow_mul,Nat.mul_comm]
 exact aG6 hl
theorem bPi (x:Rat):MM (aIh x)<=MM x:=by
 unfold aIh;split
 · exact Nat.le_refl _
 · rw [aO4];exact bJw x
theorem bUk (x:Rat):MM (aVh x)<=MM x:=by
 unfold aVh;split
 · exact Nat.le_refl _
 · rw [bJu];exact Nat.le_refl _
theorem bPl (x:Rat):MM (aIl x)=2:=by unfold aIl;split<;>rfl
theorem bPj (x:Rat):MM (aIi x)=2:=by
 unfold aIi;split
 · rw [bJu,bJv]
 · split<;>rfl
theorem bJq (x y:Rat):MM (aF3 x y)=2:=by unfold aF3;split<;>rfl
theorem bUl {x y:Rat}{E F:Nat}(hx:MM x<=10 ^ E) (hy:MM y<=10 ^ F):MM (bDz x y)<=10 ^ (E+F):=by
 unfold bDz;split
 · exact Nat.le_trans hx (aG6 (Nat.le_add_right _ _))
 · exact Nat.le_trans hy (aG6 (Nat.le_add_left _ _))
theorem bFu {f:Rat->Rat->Rat}:∀{a b:List Rat}{z:Rat},z∈List.zipWith f a b->∃x∈a,∃y∈b,z=f x y
 |[],_,z,h=>by simp at h
 |_::_,[],z,h=>by simp at h
 |x::a,y::b,z,h=>by
  rw [List.zipWith_cons_cons,List.mem_cons] at h
  rcases h with rfl|h
  · exact ⟨x,List.mem_cons_self,y,List.mem_cons_self,rfl⟩
  · obtain ⟨u,hu,v,hv,e⟩:=bFu h
    exact ⟨u,List.mem_cons_of_mem _ hu,v,List.mem_cons_of_mem _ hv,e⟩
theorem bJs {a:List Rat}{E:Nat}(h:∀x∈a,MM x<=10 ^ E) (hE:1<=E) (i:Nat):MM (atR a i)<=10 ^ E:=by
 unfold atR
 cases he:a[i]? with
 |none=>exact Nat.le_trans (Nat.le_of_eq aO4) (aNo hE)
 |some x=>exact h x (List.mem_of_getElem? he)
noncomputable def bPd (o:Opc) (s:List Int) (k:ByteArray) (n:Int) (d:List ByteArray) (sa:List Int) (a:List Rat) (sb:List Int) (b:List Rat):List Rat:=match o with
 | .param| .input=>[]
 | .const=>d.map aN1
 | .add=>List.zipWith (λx y=>x+y) a b
 | .sub=>List.zipWith (λx y=>x - y) a b
 | .mul=>List.zipWith (λx y=>x*y) a b
 | .max=>List.zipWith bDz a b
 | .above=>List.zipWith aF3 a b
 | .matmul=>bIu (sa[0]?.getD 0).toNat (sa[1]?.getD 0).toNat (sb[1]?.getD 0).toNat a b
 | .relu=>a.map aIh
 | .abs=>a.map aVh
 | .step=>a.map aIl
 | .sign=>a.map aIi
 | .scale=>a.map λx=>x*aN1 k
 | .power=>a.map λx=>x ^ n.toNat
 | .transpose=>aG7 (sa[0]?.getD 0).toNat (sa[1]?.getD 0).toNat a
 | .sum=>[aEf a]
 | .reshape=>a
 | .spread=>List.replicate (aA8 s).toNat (atR a 0)
def cBh (o:Opc) (n:Int) (sa:List Int) (m Ea Eb Ek Ed:Nat):Nat:=match o with
 | .add| .sub| .mul| .max=>Ea+Eb
 | .matmul=>(sa[1]?.getD 0).toNat*(Ea+Eb)
 | .sum=>m*Ea
 | .scale=>Ea+Ek
 | .power=>Ea*max 1 n.toNat
 | .above| .step| .sign| .param| .input=>1
 | .const=>Ed
 |_=>Ea
theorem aKg {r:List Int×Bool}{s:List Int}(h:okZ r=some s):r=(s,true)/\aAl s=true:=by
 unfold okZ at h
 split at h
 · rename_i h1
   obtain ⟨s',c⟩:=r
   simp only [Bool.and_eq_true] at h1
   cases h
   exact ⟨by rw [h1.1],h1.2⟩
 · cases h
theorem aIj {s:List Int}(h:aAl s=true):aDj s=aA8 s:=if_pos h
theorem aW6 {s:List Int}(h:aAl s=true):1<=aA8 s/\aA8 s<=64:=by
 have:=aD8 h s.length
 rwa [List.take_length] at this
theorem bF9 {d:List ByteArray}(h:∀s∈d,aBa s=true):(d.map aN1).map aAw=d:=by
 rw [List.map_map]
 conv=>rhs;rw [<- List.map_id d]
 exact List.map_congr_left λs hs=>aHv (h s hs)
structure FitIn (sa:List Int) (a:List Rat) (E:Nat):Prop where
 mm:∀x∈a,MM x<=10 ^ E
 one:1<=E
theorem bZ9 {o:Opc}{A B:Int}{name:ByteArray}{s:List Int}{k:ByteArray}{n:Int}{d:List ByteArray}{sa:List Int}{a:List Rat}{sb:List Int}{b:List Rat}{Ea Eb Ek Ed:Nat}
 (hnn:aA7 o.str=false) (hz:okZ (ofZ ⟨o.str,A,B,name,s,k,n,d⟩ sa sb)=some s)
 (ha:0<o.many->VT sa a) (hb:1<o.many->VT sb b) (hEa:FitIn sa a Ea) (hEb:FitIn sb b Eb) (hEk:1<=Ek) (hEd:1<=Ed) (hkM:aBa k=true->MM (aN1 k)<=10 ^ Ek) (hks:k.size<=1000)
 (hd:∀y∈d,aBa y=true->MM (aN1 y)<=10 ^ Ed) (hs:∀j,j<=a.length->RS (aEf (a.take j))) (hkE:Ek<=45000) (hab:Ea+Eb<=45000)
 (hR:cBh o n sa a.length Ea Eb Ek Ed<=45000):
 FitV o s k n d sa a sb b (bPd o s k n d sa a sb b)/\(∀ y∈bPd o s k n d sa a sb b,MM y<=10 ^ cBh o n sa a.length Ea Eb Ek Ed)/\(((bPd o s k n d sa a sb b).length:Nat):Int)=aA8 s:=by
 obtain ⟨hz,hok⟩:=aKg hz
 have hp:=aW6 hok
 have hzip:∀(f:Rat->Rat->Rat) (C:Nat),(∀ x y,MM x<=10 ^ Ea->MM y<=10 ^ Eb->MM (f x y)<=10 ^ C)->∀z∈List.zipWith f a b,MM z<=10 ^ C:=λf C h z hz=>by
  obtain ⟨x,hx,y,hy,rfl⟩:=bFu hz
  exact h x y (hEa.mm x hx) (hEb.mm y hy)
 have hmap:∀(f:Rat->Rat) (C:Nat),(∀ x,MM x<=10 ^ Ea->MM (f x)<=10 ^ C)->∀z∈a.map f,MM z<=10 ^ C:=λf C h z hz=>by
  obtain ⟨x,hx,rfl⟩:=List.mem_map.1 hz
  exact h x (hEa.mm x hx)
 have hzl:∀f:Rat->Rat->Rat,VT sa a->VT sa b->(((List.zipWith f a b).length:Nat):Int)=aA8 sa:=λf h1 h2=>by
  rw [List.length_zipWith]
  have:=h1.len;have:=h2.len
  omega
 have hdif:VT sa a->VT sa b->∀i (h:i<a.length) (h2:i<b.length),RS (a[i] - b[i]):=λh1 h2 i h h'=>
  aG9 (Nat.le_trans (bTn _ _) (aJs (hEa.mm _ (List.getElem_mem h)) (hEb.mm _ (List.getElem_mem h')))) hab
 have o1:=hEa.one
 have o2:=hEb.one
 cases o
 case param=>cases hnn
 case input=>cases hnn
 case const=>
  rw [show ofZ ⟨Opc.str .const,A,B,name,s,k,n,d⟩ sa sb=(s,decide ((d.length:Int)=aDj s) && !(d.any λd=> !aBa d)) from rfl] at hz
  have h1:=congrArg Prod.snd hz
  simp only [Bool.and_eq_true,decide_eq_true_eq,Bool.not_eq_true',List.any_eq_false,Bool.not_eq_false'] at h1
  have hr:∀y∈d,aBa y=true:=λy hy=>by have:=h1.2 y hy;simpa using this
  have hm:∀z∈d.map aN1,MM z<=10 ^ Ed:=λz hz=>by
   obtain ⟨y,hy,rfl⟩:=List.mem_map.1 hz
   exact hd y hy (hr y hy)
  have hl:(((d.map aN1).length:Nat):Int)=aA8 s:=by rw [List.length_map,<-aIj hok];exact h1.1
  have hv:VT s (d.map aN1):=⟨hok,hl,λz hz=>aG9 (hm z hz) hR⟩
  refine ⟨?_,hm,hl⟩
  have:=FitV.const (k:=k) (n:=n) (sa:=sa) (a:=a) (sb:=sb) (b:=b) hv
  rw [bF9 hr] at this
  exact this
 case add=>
  rw [show ofZ ⟨Opc.str .add,A,B,name,s,k,n,d⟩ sa sb=(sa,decide (sa=sb)) from rfl] at hz
  obtain ⟨rfl,h2⟩:=Prod.mk.inj hz
  obtain rfl:=of_decide_eq_true h2
  have ha:=ha (by decide);have hb:=hb (by decide)
  have hm:=hzip (λx y=>x+y) (Ea+Eb) λx y h1 h2=>Nat.le_trans (bJr _ _) (aJs h1 h2)
  exact ⟨.add ha hb λx hx=>aG9 (hm x hx) hR,hm,hzl _ ha hb⟩
 case sub=>
  rw [show ofZ ⟨Opc.str .sub,A,B,name,s,k,n,d⟩ sa sb=(sa,decide (sa=sb)) from rfl] at hz
  obtain ⟨rfl,h2⟩:=Prod.mk.inj hz
  obtain rfl:=of_decide_eq_true h2
  have ha:=ha (by decide);have hb:=hb (by decide)
  have hm:=hzip (λx y=>x - y) (Ea+Eb) λx y h1 h2=>Nat.le_trans (bTn _ _) (aJs h1 h2)
  exact ⟨.sub ha hb λx hx=>aG9 (hm x hx) hR,hm,hzl _ ha hb⟩
 case mul=>
  rw [show ofZ ⟨Opc.str .mul,A,B,name,s,k,n,d⟩ sa sb=(sa,decide (sa=sb)) from rfl] at hz
  obtain ⟨rfl,h2⟩:=Prod.mk.inj hz
  obtain rfl:=of_decide_eq_true h2
  have ha:=ha (by decide);have hb:=hb (by decide)
  have hm:=hzip (λx y=>x*y) (Ea+Eb) λx y h1 h2=>Nat.le_trans (aXy _ _) (aJs h1 h2)
  exact ⟨.mul ha hb λx hx=>aG9 (hm x hx) hR,hm,hzl _ ha hb⟩
 case max=>
  rw [show ofZ ⟨Opc.str .max,A,B,name,s,k,n,d⟩ sa sb=(sa,decide (sa=sb)) from rfl] at hz
  obtain ⟨rfl,h2⟩:=Prod.mk.inj hz
  obtain rfl:=of_decide_eq_true h2
  have ha:=ha (by decide);have hb:=hb (by decide)
  have hm:=hzip bDz (Ea+Eb) λx y h1 h2=>bUl h1 h2
  exact ⟨.max ha hb (λi h=>hdif ha hb i h _) λx hx=>aG9 (hm x hx) hR,hm,hzl _ ha hb⟩
 case above=>
  rw [show ofZ ⟨Opc.str .above,A,B,name,s,k,n,d⟩ sa sb=(sa,decide (sa=sb)) from rfl] at hz
  obtain ⟨rfl,h2⟩:=Prod.mk.inj hz
  obtain rfl:=of_decide_eq_true h2
  have ha:=ha (by decide);have hb:=hb (by decide)
  have hm:=hzip aF3 1 λx y h1 h2=>Nat.le_trans (Nat.le_of_eq (bJq x y)) (by decide)
  exact ⟨.above ha hb (λi h=>hdif ha hb i h _) λx hx=>aG9 (hm x hx) hR,hm,hzl _ ha hb⟩
 case relu=>
  rw [show ofZ ⟨Opc.str .relu,A,B,name,s,k,n,d⟩ sa sb=(sa,true) from rfl] at hz
  obtain ⟨rfl,_⟩:=Prod.mk.inj hz
  have ha:=ha (by decide)
  exact ⟨.relu ha,hmap aIh Ea λx h=>Nat.le_trans (bPi x) h,by rw [<- ha.len];exact congrArg _ (List.length_map _)⟩
 case abs=>
  rw [show ofZ ⟨Opc.str .abs,A,B,name,s,k,n,d⟩ sa sb=(sa,true) from rfl] at hz
  obtain ⟨rfl,_⟩:=Prod.mk.inj hz
  have ha:=ha (by decide)
  exact ⟨.abs ha,hmap aVh Ea λx h=>Nat.le_trans (bUk x) h,by rw [<- ha.len];exact congrArg _ (List.length_map _)⟩
 case step=>
  rw [show ofZ ⟨Opc.str .step,A,B,name,s,k,n,d⟩ sa sb=(sa,true) from rfl] at hz
  obtain ⟨rfl,_⟩:=Prod.mk.inj hz
  have ha:=ha (by decide)
  exact ⟨.step ha,hmap aIl 1 λx h=>Nat.le_trans (Nat.le_of_eq (bPl x)) (by decide),by rw [<- ha.len];exact congrArg _ (List.length_map _)⟩
 case sign=>
  rw [show ofZ ⟨Opc.str .sign,A,B,name,s,k,n,d⟩ sa sb=(sa,true) from rfl] at hz
  obtain ⟨rfl,_⟩:=Prod.mk.inj hz
  have ha:=ha (by decide)
  exact ⟨.sign ha,hmap aIi 1 λx h=>Nat.le_trans (Nat.le_of_eq (bPj x)) (by decide),by rw [<- ha.len];exact congrArg _ (List.length_map _)⟩
 case scale=>
  rw [show ofZ ⟨Opc.str .scale,A,B,name,s,k,n,d⟩ sa sb=(sa,aBa k) from rfl] at hz
  obtain ⟨rfl,hk⟩:=Prod.mk.inj hz
  have ha:=ha (by decide)
  have hkM:=hkM hk
  have hm:=hmap (λx=>x*aN1 k) (Ea+Ek) λx h=>Nat.le_trans (aXy _ _) (aJs h hkM)
  refine ⟨?_,hm,by rw [<- ha.len];exact congrArg _ (List.length_map _)⟩
  have:=FitV.scale (n:=n) (d:=d) (sb:=sb) (b:=b) ha (aG9 hkM hkE) (λx hx=>aG9 (hm _ (List.mem_map.2 ⟨x,hx,rfl⟩)) hR) hs
  rw [aHv hk] at this
  exact this
 case power=>
  rw [show ofZ ⟨Opc.str .power,A,B,name,s,k,n,d⟩ sa sb=(sa,decide (0<=n) && decide (n<=6)) from rfl] at hz
  obtain ⟨rfl,hn⟩:=Prod.mk.inj hz
  simp only [Bool.and_eq_true,decide_eq_true_eq] at hn
  obtain ⟨nn,rfl⟩:∃m:Nat,n=m:=⟨n.toNat,by omega⟩
  have ha:=ha (by decide)
  have hpw:∀x,MM x<=10 ^ Ea->∀j,j<=nn->MM (x ^ j)<=10 ^ (Ea*max 1 nn):=λx h j hj=>
   bGs (n:=max 1 nn) h (by rw [<- Nat.pow_mul];exact Nat.le_refl _) (aNo (Nat.le_trans o1 (Nat.le_mul_of_pos_right _ (by omega)))) j (by omega)
  have hm:=hmap (λx=>x ^ nn) (Ea*max 1 nn) λx h=>hpw x h nn (Nat.le_refl _)
  exact ⟨.power (by omega) ha (by omega) (λx hx j hj=>aG9 (hpw x (hEa.mm x hx) j hj) hR) hs,hm,by rw [<- ha.len];exact congrArg _ (List.length_map _)⟩
 case transpose=>
  have ha:=ha (by decide)
  have h2:sa.length=2:=by
   rcases Nat.decEq sa.length 2 with h|h
   · rw [show ofZ ⟨Opc.str .transpose,A,B,name,s,k,n,d⟩ sa sb=_ from aIm h] at hz
     cases hz
   · exact h
  obtain ⟨p,q,rfl⟩:=aKw h2
  rw [show ofZ ⟨Opc.str .transpose,A,B,name,s,k,n,d⟩ [p,q] sb=([q,p],true) from rfl] at hz
  obtain ⟨rfl,_⟩:=Prod.mk.inj hz
  have hdm:=aCs ha.ok
  have h1:=hdm p (by simp)
  have h2:=hdm q (by simp)
  obtain ⟨p,rfl⟩:∃m:Nat,p=m:=⟨p.toNat,by omega⟩
  obtain ⟨q,rfl⟩:∃m:Nat,q=m:=⟨q.toNat,by omega⟩
  refine ⟨.transpose ha,λz hz=>?_,?_⟩
  · obtain ⟨j,_,rfl⟩:=List.mem_map.1 (show z∈aG7 p q a from hz)
    exact bJs hEa.mm o1 _
  · show (((aG7 p q a).length:Nat):Int)=_
    rw [aKn];simp [aA8]
 case sum=>
  rw [show ofZ ⟨Opc.str .sum,A,B,name,s,k,n,d⟩ sa sb=([],true) from rfl] at hz
  obtain ⟨rfl,_⟩:=Prod.mk.inj hz
  have ha:=ha (by decide)
  have hvl:=ha.vl
  refine ⟨.sum (by omega) ha hs,λz hz=>?_,rfl⟩
  obtain rfl:=List.mem_singleton.1 (show z∈[aEf a] from hz)
  have:=aMr hEa.mm (C:=10 ^ (a.length*Ea)) (by rw [<- Nat.pow_mul,Nat.mul_comm];exact Nat.le_refl _) (aNo (Nat.le_trans o1 (Nat.le_mul_of_pos_left _ (by omega)))) a.length (Nat.le_refl _)
  rwa [List.take_length] at this
 case reshape=>
  rw [show ofZ ⟨Opc.str .reshape,A,B,name,s,k,n,d⟩ sa sb=(s,decide (aDj s=aDj sa)) from rfl] at hz
  have h2:=of_decide_eq_true (congrArg Prod.snd hz)
  have ha:=ha (by decide)
  rw [aIj hok,aIj ha.ok] at h2
  have hl:((a.length:Nat):Int)=aA8 s:=by rw [h2];exact ha.len
  exact ⟨.reshape ha hok hl,hEa.mm,hl⟩
 case spread=>
  rw [show ofZ ⟨Opc.str .spread,A,B,name,s,k,n,d⟩ sa sb=(s,decide ((sa.length:Int)=0)) from rfl] at hz
  have h2:=of_decide_eq_true (congrArg Prod.snd hz)
  have ha:=ha (by decide)
  obtain rfl:sa=[]:=List.length_eq_zero_iff.1 (by omega)
  have hl:=ha.len
  rw [show aA8 []=1 from rfl] at hl
  obtain ⟨x,rfl⟩:∃x,a=[x]:=List.length_eq_one_iff.1 (by omega)
  obtain ⟨m,hm⟩:∃m:Nat,aA8 s=((m+1:Nat):Int):=⟨(aA8 s).toNat - 1,by omega⟩
  have e:bPd .spread s k n d [] [x] sb b=List.replicate (m+1) x:=by show List.replicate (aA8 s).toNat x=_;rw [hm];rfl
  rw [e]
  refine ⟨.spread (by omega) (ha.rs x List.mem_cons_self) hok hm,λz hz=>?_,by rw [List.length_replicate,hm]⟩
  rw [List.eq_of_mem_replicate hz]
  exact hEa.mm x List.mem_cons_self
 case matmul=>
  have ha:=ha (by decide)
  have hb:=hb (by decide)
  by_cases h:sa.length=2/\sb.length=2/\sa[1]? =sb[0]?
  case neg=>
   rw [show ofZ ⟨Opc.str .matmul,A,B,name,s,k,n,d⟩ sa sb=_ from aKd h] at hz
   cases hz
  obtain ⟨p,q,rfl⟩:=aKw h.1
  obtain ⟨q',c,rfl⟩:=aKw h.2.1
  obtain rfl:q=q':=Option.some.inj h.2.2
  rw [show ofZ ⟨Opc.str .matmul,A,B,name,s,k,n,d⟩ [p,q] [q,c]=([p,c],true) from if_pos rfl] at hz
  obtain ⟨rfl,_⟩:=Prod.mk.inj hz
  have h1:=aCs ha.ok p (by simp)
  have h2:=aCs ha.ok q (by simp)
  have h3:=aCs hb.ok c (by simp)
  obtain ⟨p,rfl⟩:∃m:Nat,p=m:=⟨p.toNat,by omega⟩
  obtain ⟨q,rfl⟩:∃m:Nat,q=m:=⟨q.toNat,by omega⟩
  obtain ⟨c,rfl⟩:∃m:Nat,c=m:=⟨c.toNat,by omega⟩
  have hR:q*(Ea+Eb)<=45000:=hR
  have ht:∀i j,MM (atR a i*atR b j)<=10 ^ (Ea+Eb):=λi j=>Nat.le_trans (aXy _ _) (aJs (bJs hEa.mm o1 _) (bJs hEb.mm o2 _))
  have hsum:∀i k j,j<=q->MM (aEf ((aCv q c a b i k).take j))<=10 ^ (q*(Ea+Eb)):=λi k j hj=>by
   refine aMr (A:=10 ^ (Ea+Eb)) (λz hz=>?_) ?_ (aNo (Nat.le_trans o1 (Nat.le_trans (Nat.le_add_right _ _) (Nat.le_mul_of_pos_left _ (by omega))))) j (by rw [aBt];exact hj)
   · obtain ⟨t,_,rfl⟩:=List.mem_map.1 hz
     exact ht _ _
   · rw [aBt,<-Nat.pow_mul,Nat.mul_comm];exact Nat.le_refl _
  refine ⟨.matmul ha hb hok (λi k j _ _ _=>aG9 (ht _ _) hab) (λi k j _ _ hj=>aG9 (hsum i k j hj) hR),λz hz=>?_,?_⟩
  · obtain ⟨t,_,rfl⟩:=List.mem_map.1 (show z∈bIu p q c a b from hz)
    have:=hsum (t / c) (t % c) q (Nat.le_refl _)
    rwa [List.take_of_length_le (by rw [aBt];exact Nat.le_refl _)] at this
  · show (((bIu p q c a b).length:Nat):Int)=_
    rw [aOr];simp [aA8]
end Go.V
