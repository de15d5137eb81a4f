/-
  Lemmas (part 12) for: the statement.
-/
import Derived.Test.YtphnnbfgiomaoaaGreatDoorFive10
import Derived.Test.YtphnnbfgiomaoaaGreatDoorFive11
set_option linter.all false
namespace Go.V
open Go.N Go.Proofs
set_option maxRecDepth 20000
def aYo:Tab:=[(40,i40),(27,i27),(3,i3),(4,i4),(32,i32),(9,i9)]
theorem aHa:TOK Tryz.prog aYo:=⟨K40,⟨K27,⟨K3,⟨K4,⟨K32,⟨K9,trivial⟩⟩⟩⟩⟩⟩
def aYq:Tab:=[(40,i40),(27,i27),(3,i3),(32,i32),(9,i9)]
theorem aHc:TOK Tryz.prog aYq:=⟨K40,⟨K27,⟨K3,⟨K32,⟨K9,trivial⟩⟩⟩⟩⟩
def aJr (s:List Int) (l:List ByteArray):Bool:=decide (s.length<=10) && (decide (l.length<=70) && l.all λx=>decide (x.size<=40))
set_option maxHeartbeats 1000000 in
theorem bDk (s:List Int) (l:List ByteArray):aAc Tryz.prog GL 46 [aEv s l] (λy=>y= .bool (aJr s l)):=by
 have hs:=rowZ_length s
 have hl:=rowS_length l
 unfold aEv
 by_cases h1:s.length<=10
 case neg=>
  rw [show aJr s l=false by rw [aJr,decide_eq_false h1];rfl]
  refine vgo aHc Tryz.func46 ?_
  repeat' first|refine sV ⟨?_⟩|refine sq (λh=>⟨?_⟩) λh=>⟨?_⟩|fail
  all_goals (conv=>whnf)
  all_goals rfl
 by_cases h2:l.length<=70
 case neg=>
  rw [show aJr s l=false by rw [aJr,decide_eq_false h2];simp]
  refine vgo aHc Tryz.func46 ?_
  repeat' first|refine sV ⟨?_⟩|refine sq (λh=>⟨?_⟩) λh=>⟨?_⟩|fail
  all_goals (conv=>whnf)
  all_goals rfl
 rw [show aJr s l=l.all λx=>decide (x.size<=40) by rw [aJr,decide_eq_true h1,decide_eq_true h2];rfl]
 refine vgo aHc Tryz.func46 ?_
 repeat' first|refine sV ⟨?_⟩|refine sq (λh=>⟨?_⟩) λh=>⟨?_⟩|fail
 refine ⟨[1,3],[0],λm st=>∃i:Nat,i<=l.length/\m=l.length - i/\(∀ j (h:j<l.length),j<i->l[j].size<=40)/\st=⟨[(1,.bptr 0 0),(3,.int .i64 (i:Nat))],[.box 40 [.ro 1 (aAh s),.ro 1 (aCm l)]]⟩,rfl,⟨l.length,0,by omega,rfl,λj h h0=>absurd h0 (Nat.not_lt_zero _),rfl⟩,?_⟩
 rintro m _ ⟨i,hi,hm,hall,rfl⟩
 rcases Nat.lt_or_ge i l.length with hil|hge
 · have g:=aCd hil
   by_cases h4:l[i].size<=40
   · have hx:∀j (h:j<l.length),j<i+1->l[j].size<=40:=λj h hj=>(Nat.lt_succ_iff_lt_or_eq.1 hj).elim (hall j h) (λe=>by subst e;exact h4)
     generalize l[i]=x at g h4
     repeat' first|refine sV ⟨?_⟩|refine sq (λh=>⟨?_⟩) λh=>⟨?_⟩|fail
     all_goals exact ⟨[0],l.length - (i+1),rfl,by omega,i+1,by omega,rfl,hx,rfl⟩
   · have e:(l.all λx=>decide (x.size<=40))=false:=by
      rw [List.all_eq_false];exact ⟨l[i],List.getElem_mem hil,by simpa using h4⟩
     generalize (l.all λx=>decide (x.size<=40))=b at e
     subst e
     generalize l[i]=x at g h4
     repeat' first|refine sV ⟨?_⟩|refine sq (λh=>⟨?_⟩) λh=>⟨?_⟩|fail
     all_goals (conv=>whnf)
     all_goals rfl
 · have e:(l.all λx=>decide (x.size<=40))=true:=by
    rw [List.all_eq_true];intro x hx
    obtain ⟨j,hj,rfl⟩:=List.getElem_of_mem hx
    exact decide_eq_true (hall j hj (by omega))
   generalize (l.all λx=>decide (x.size<=40))=b at e
   subst e
   repeat' first|refine sV ⟨?_⟩|refine sq (λh=>⟨?_⟩) λh=>⟨?_⟩|fail
   all_goals (conv=>whnf)
   all_goals rfl
open Classical in
set_option maxHeartbeats 1000000 in
theorem aK3 (s t:List Int) (l k:List ByteArray) (hs1:s.length<=1000) (ht1:t.length<=1000) (hl1:l.length<=1000):aAc Tryz.prog GL 28 [aEv s l,aEv t k] (λy=>y= .bool (decide (s=t) && decide (l=k))):=by
 have hl:=rowS_length l
 have hk:=rowS_length k
 have hsm:=aDh GL s t (by omega) (by omega)
 unfold aEv
 by_cases h1:s=t
 case neg=>
  rw [decide_eq_false h1] at hsm
  rw [show (decide (s=t) && decide (l=k))=false by rw [decide_eq_false h1];rfl]
  refine vgo aHa Tryz.func28 ?_
  repeat' first|refine sV ⟨?_⟩|refine sq (λh=>⟨?_⟩) λh=>⟨?_⟩|fail
  all_goals (conv=>whnf)
  all_goals rfl
 rw [decide_eq_true h1] at hsm
 rw [show (decide (s=t) && decide (l=k))=decide (l=k) by rw [decide_eq_true h1];rfl]
 by_cases h2:l.length=k.length
 case neg=>
  rw [show decide (l=k)=false from decide_eq_false (λe=>h2 (by rw [e]))]
  refine vgo aHa Tryz.func28 ?_
  repeat' first|refine sV ⟨?_⟩|refine sq (λh=>⟨?_⟩) λh=>⟨?_⟩|fail
  all_goals (conv=>whnf)
  all_goals rfl
 refine vgo aHa Tryz.func28 ?_
 repeat' first|refine sV ⟨?_⟩|refine sq (λh=>⟨?_⟩) λh=>⟨?_⟩|fail
 refine ⟨[2,3,5],[0,1],λm st=>∃i:Nat,i<=l.length/\m=l.length - i/\l.take i=k.take i/\st=⟨[(2,.bptr 0 0),(3,.bptr 1 0),(5,.int .i64 (i:Nat))],[.box 40 [.ro 1 (aAh s),.ro 1 (aCm l)],.box 40 [.ro 1 (aAh t),.ro 1 (aCm k)]]⟩,rfl,⟨l.length,0,by omega,rfl,rfl,rfl⟩,?_⟩
 rintro m _ ⟨i,hi,hm,htk,rfl⟩
 rcases Nat.lt_or_ge i l.length with hil|hge
 · have g:=aCd hil
   have g2:=aCd (l:=k) (k:=i) (by omega)
   by_cases h4:l[i]=k[i]'(by omega)
   · have hx:l.take (i+1)=k.take (i+1):=by rw [List.take_succ_eq_append_getElem hil,List.take_succ_eq_append_getElem (by omega),htk,h4]
     generalize l[i]=x at g h4
     generalize k[i]'(by omega)=y at g2 h4
     repeat' first|refine sV ⟨?_⟩|refine sq (λh=>⟨?_⟩) λh=>⟨?_⟩|fail
     refine ⟨by decide +kernel,[0,1,0,7,15,0,32,0,224,480,1023],by decide +kernel,?_⟩
     repeat' first|refine sV ⟨?_⟩|refine sq (λh=>⟨?_⟩) λh=>⟨?_⟩|fail
     all_goals exact ⟨[0,1],l.length - (i+1),rfl,by omega,i+1,by omega,rfl,hx,rfl⟩
   · have e:decide (l=k)=false:=decide_eq_false (λe=>h4 (by subst e;rfl))
     generalize decide (l=k)=b at e
     subst e
     generalize l[i]=x at g h4
     generalize k[i]'(by omega)=y at g2 h4
     repeat' first|refine sV ⟨?_⟩|refine sq (λh=>⟨?_⟩) λh=>⟨?_⟩|fail
     refine ⟨by decide +kernel,[0,1,0,7,15,0,32,0,224,480,1023],by decide +kernel,?_⟩
     repeat' first|refine sV ⟨?_⟩|refine sq (λh=>⟨?_⟩) λh=>⟨?_⟩|fail
     all_goals (conv=>whnf)
     all_goals rfl
 · have e:decide (l=k)=true:=by
    rw [List.take_of_length_le (by omega),List.take_of_length_le (by omega)] at htk
    exact decide_eq_true htk
   generalize decide (l=k)=b at e
   subst e
   repeat' first|refine sV ⟨?_⟩|refine sq (λh=>⟨?_⟩) λh=>⟨?_⟩|fail
   all_goals (conv=>whnf)
   all_goals rfl
end Go.V
