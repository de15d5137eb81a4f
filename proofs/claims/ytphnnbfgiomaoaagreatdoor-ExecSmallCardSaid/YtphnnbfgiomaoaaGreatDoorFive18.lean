/-
  Lemmas (part 18) for: the statement.
-/
import Derived.Test.YtphnnbfgiomaoaaGreatDoorFive16
import Derived.Test.YtphnnbfgiomaoaaGreatDoorFive17
set_option linter.all false
namespace Go.V
open Go.N Go.Proofs
set_option maxRecDepth 20000
theorem cO8 (out:List Nd) (y:Nd):cNt out y<=out.length:=by
 rcases cN3 out y with ⟨h,_⟩|⟨h,_⟩<;>omega
theorem cN2 {l:List Nd}:∀i,i<=l.length->(cNs l i).1.length=i/\(cNs l i).2.length<=i
 |0,_=>⟨rfl,Nat.le_refl _⟩
 |i+1,h=>by
  have ih:=cN2 (l:=l) i (by omega)
  have hx:l[i]? =some l[i]:=List.getElem?_eq_getElem (by omega)
  rw [cNx (Prod.eta _).symm hx]
  refine ⟨by simp [ih.1],?_⟩
  dsimp only
  split
  · simp;omega
  · omega
theorem cVn {l:List Nd}{i:Nat}(hi:i<l.length){k:Nat}{y:Nd}(h:(cNs l i).2[k]? =some y):(cNs l (i+1)).2[k]? =some y:=by
 have hx:l[i]? =some l[i]:=List.getElem?_eq_getElem hi
 rw [cNx (Prod.eta _).symm hx]
 dsimp only
 split
 · rw [List.getElem?_append_left (List.getElem?_eq_some_iff.1 h).1];exact h
 · exact h
theorem cOq {l:List Nd}{i:Nat}{k:Nat}{y:Nd}(h:(cNs l i).2[k]? =some y):∀j,i<=j->j<=l.length->(cNs l j).2[k]? =some y
 |0,h1,_=>by have:i=0:=by omega
             subst this;exact h
 |j+1,h1,h2=>by
  rcases Nat.eq_or_lt_of_le h1 with e|e
  · subst e;exact h
  · exact cVn (by omega) (cOq h j (by omega) (by omega))
theorem cWv {l:List Nd}{i:Nat}(hi:i<l.length){k:Nat}{v:Int}(h:(cNs l i).1[k]? =some v):(cNs l (i+1)).1[k]? =some v:=by
 have hx:l[i]? =some l[i]:=List.getElem?_eq_getElem hi
 rw [cNx (Prod.eta _).symm hx]
 dsimp only
 rw [List.getElem?_append_left (List.getElem?_eq_some_iff.1 h).1];exact h
theorem cT8 {l:List Nd}{i:Nat}{k:Nat}{v:Int}(h:(cNs l i).1[k]? =some v):∀j,i<=j->j<=l.length->(cNs l j).1[k]? =some v
 |0,h1,_=>by have:i=0:=by omega
             subst this;exact h
 |j+1,h1,h2=>by
  rcases Nat.eq_or_lt_of_le h1 with e|e
  · subst e;exact h
  · exact cWv (by omega) (cT8 h j (by omega) (by omega))
theorem cVc {l:List Nd}{i:Nat}{x:Nd}(hx:l[i]? =some x):∃p:Nat,p<=(cNs l i).2.length/\(cNs l (i+1)).1[i]? =some (p:Int)/\(cNs l (i+1)).2[p]? =some (reN (cNs l i).1 x)/\
 (cNs l (i+1)).2.length=max (cNs l i).2.length (p+1):=by
 have hi:=(List.getElem?_eq_some_iff.1 hx).1
 have hlen:=(cN2 (l:=l) i (by omega)).1
 refine ⟨cNt (cNs l i).2 (reN (cNs l i).1 x),cO8 _ _,?_,?_,?_⟩
 all_goals rw [cNx (Prod.eta _).symm hx]
 all_goals dsimp only
 · rw [List.getElem?_append_right (by omega),hlen,Nat.sub_self];rfl
 · rcases cN3 (cNs l i).2 (reN (cNs l i).1 x) with ⟨h1,h2,_⟩|⟨h1,_⟩
   · rw [if_neg (by omega),List.getElem?_eq_getElem h1,h2]
   · rw [if_pos h1,List.getElem?_append_right (by omega),h1,Nat.sub_self];rfl
 · rcases cN3 (cNs l i).2 (reN (cNs l i).1 x) with ⟨h1,h2,_⟩|⟨h1,_⟩
   · rw [if_neg (by omega)];omega
   · rw [if_pos h1,h1];simp
theorem cP1 {l:List Nd}(hs:∀x∈l,x.Sm):∀i,∀x∈(cNs l i).2,x.Sm
 |0,x,hx=>by simp [cNs] at hx
 |i+1,x,hx=>by
  have ih:=cP1 hs i
  unfold cNs at hx
  split at hx
  · exact ih x hx
  · rename_i y hy
    dsimp only at hx
    split at hx
    · simp only [List.mem_append,List.mem_singleton] at hx
      rcases hx with hx|rfl
      · exact ih x hx
      · exact cH1 (hs y (List.mem_of_getElem? hy))
    · exact ih x hx
theorem cYn {g:Gr}(hg:aC1 g=true){i:Nat}{x:Nd}(hx:g.nodes[i]? =some x){pl pl':List Int}(h:∀k,k<i->atZ pl (k:Nat)=atZ pl' (k:Nat)):reN pl x=reN pl' x:=by
 obtain ⟨m,hop,F⟩:=cGn hg hx
 have hm:=aNi hop
 have hp:=cE1 hg hx
 have h3:m=0\/m=1\/m=2:=by omega
 rcases h3 with rfl|rfl|rfl
 · rw [re0 hop,re0 hop]
 · rw [dP1 hop] at hp
   obtain ⟨k,hk,hki⟩:=hp x.a (by simp)
   rw [re1 hop,re1 hop,hk,h k hki]
 · rw [dP2 hop] at hp
   obtain ⟨k,hk,hki⟩:=hp x.a (by simp)
   obtain ⟨k2,hk2,hki2⟩:=hp x.b (by simp)
   rw [re2 hop,re2 hop,hk,h k hki,hk2,h k2 hki2]
def cO7 (l:List Nd) (n:Nat):Prop:=∀i (hi:i<l.length) k (hk:k<i),i<n->l[i]≠l[k]'(by omega)
theorem cT7 {g:Gr}(hg:aC1 g=true):∀i,i<=g.nodes.length->cO7 g.nodes i->cNs g.nodes i=(cG3 i,g.nodes.take i)
 |0,_,_=>by simp [cNs,cG3]
 |i+1,h,hd=>by
  have hx:g.nodes[i]? =some g.nodes[i]:=List.getElem?_eq_getElem (by omega)
  have ih:=cT7 hg i (by omega) (λa ha k hk hi=>hd a ha k hk (by omega))
  have hf:cNt (g.nodes.take i) (reN (cG3 i) g.nodes[i])=(g.nodes.take i).length:=cNw λj hj=>by
   rw [cHw hg hx]
   rw [List.length_take] at hj
   simp only [List.getElem_take]
   exact λe=>hd i (by omega) j (by omega) (by omega) e.symm
  rw [cNx ih hx,hf,if_pos rfl,cHw hg hx,cHb,List.length_take,List.take_succ_eq_append_getElem (by omega),Nat.min_eq_left (by omega)]
end Go.V
