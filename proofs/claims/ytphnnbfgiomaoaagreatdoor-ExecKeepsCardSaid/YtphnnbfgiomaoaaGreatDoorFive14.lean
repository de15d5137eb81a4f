/-
  Lemmas (part 14) for: the statement.
-/
import Derived.Test.YtphnnbfgiomaoaaGreatDoorFive12
import Derived.Test.YtphnnbfgiomaoaaGreatDoorFive13
set_option linter.all false
namespace Go.V
open Go.N Go.Proofs
set_option maxRecDepth 20000
theorem aW2 (r:List (List AV)){n:Nat}(h:n=r.length):r=List.take n (List.drop 0 r):=by rw [h,List.drop_zero,List.take_length]
theorem aL2 {bd:Nd->List Rat}{l:List Nd}{c:Nat}(G:Given bd l c){j:Nat}{x:Nd}(hx:l[j]? =some x):VT x.shape (aAk bd l j)/\∀y∈aAk bd l j,MM y<=10 ^ 400:=by
 have H:=bFg G j x hx
 have hw:=G.w j (List.getElem?_eq_some_iff.1 hx).1
 have hwi:=bA5 l j
 have hm:∀z∈aAk bd l j,MM z<=10 ^ 400:=λz hz=>by
  refine Nat.le_trans (H.mm z hz) (aG6 (a:=c*(wAt l j).toNat) (b:=400) ?_)
  have e:((wAt l j).toNat:Int)=wAt l j:=Int.toNat_of_nonneg (by omega)
  rw [<- e,<-Int.natCast_mul] at hw;omega
 exact ⟨⟨H.ok,H.len,λy hy=>aG9 (hm y hy) (by decide)⟩,hm⟩
end Go.V
