/-
  Lemmas (part 1) for: FoldOnce holds for all arguments; no condition.
-/
import Derived.Test.YtanlechpmkpbiaaGreatDoorKeep10
import Derived.Test.YtanlechpmkpbiaaGreatDoorKeep11
import Derived.Test.YtanlechpmkpbiaaGreatDoorKeep12
set_option linter.all false
namespace Go.V
open Go.N Go.Proofs
section
theorem cD5:aEe aA0=0:=by decide
end
end Go.V
namespace Go.V
open Go.N Go.Proofs
set_option maxRecDepth 20000
def l3 (sa:List Int) (da:List ByteArray) (op name:ByteArray) (s:List Int) (k:ByteArray) (n:Int) (d:List ByteArray):List Nd:=
 [⟨aA0,0,0,⟨#[]⟩,sa,⟨#[]⟩,0,da⟩,⟨op,0,0,name,s,k,n,d⟩,⟨bPc,1,0,⟨#[]⟩,[],⟨#[]⟩,0,[]⟩]
theorem cEh {g:Gr}(hg:aC1 g=true){j:Nat}{x:Nd}(hx:g.nodes[j]? =some x) (hc:x.op=aA0){E:Nat}(hE:E<=45000) (hd:∀y∈x.data,y.size+1<=E):
 VT x.shape (x.data.map aN1)/\(∀ y∈x.data.map aN1,MM y<=10 ^ E)/\(x.data.map aN1).map aAw=x.data:=by
 obtain ⟨op,A,B,name,s,k,n,d⟩:=x
 dsimp only at hc hd ⊢
 subst hc
 obtain ⟨F,hz⟩:=aOm (o:=.const) rfl (aOt hg hx)
 obtain ⟨hz,hok⟩:=aKg hz
 rw [show ofZ ⟨aA0,A,B,name,s,k,n,d⟩ _ _=(s,decide ((d.length:Int)=aDj s) && !(d.any λd=> !aBa d)) from rfl] at hz
 have h1:=congrArg Prod.snd hz
 simp only [Bool.and_eq_true,decide_eq_true_eq,Bool.not_eq_true',List.any_eq_false,Bool.not_eq_false'] at h1
 have hr:∀y∈d,aBa y=true:=λy hy=>by have:=h1.2 y hy;simpa using this
 have hm:∀z∈d.map aN1,MM z<=10 ^ E:=λz hz=>by
  obtain ⟨y,hy,rfl⟩:=List.mem_map.1 hz
  refine Nat.le_trans (bPk (x:=aN1 y) (n:=E - 1) (by rw [aHv (hr y hy)];have:=hd y hy;omega)) (aG6 ?_)
  have:=hd y hy
  omega
 exact ⟨⟨hok,by rw [List.length_map,<-aIj hok];exact h1.1,λz hz=>aG9 (hm z hz) hE⟩,hm,bF9 hr⟩
theorem cEi {o:Opc}{A B:Int}{name:ByteArray}{s:List Int}{k:ByteArray}{n:Int}{d:List ByteArray}{sa:List Int}{v:List Rat}
 (hz:okZ (ofZ ⟨o.str,A,B,name,s,k,n,d⟩ sa sa)=some s) (hv:VT sa v):(aA8 s).toNat*cBh o n sa v.length 41 41 31 31<=45000:=by
 obtain ⟨hz,hok⟩:=aKg hz
 have hp:=aW6 hok
 have hvl:=hv.vl
 have key:∀e:Nat,e<=656->(aA8 s).toNat*e<=45000:=λe he=>Nat.le_trans (Nat.mul_le_mul (show (aA8 s).toNat<=64 by omega) he) (by decide)
 cases o
 case sum=>
  rw [show ofZ ⟨Opc.str .sum,A,B,name,s,k,n,d⟩ sa sa=([],true) from rfl] at hz
  obtain ⟨rfl,_⟩:=Prod.mk.inj hz
  show 1*(v.length*41)<=45000
  omega
 case power=>
  rw [show ofZ ⟨Opc.str .power,A,B,name,s,k,n,d⟩ sa sa=(sa,decide (0<=n) && decide (n<=6)) from rfl] at hz
  have hn:=congrArg Prod.snd hz
  simp only [Bool.and_eq_true,decide_eq_true_eq] at hn
  exact key _ (show 41*max 1 n.toNat<=656 by omega)
 case matmul=>
  by_cases h:sa.length=2/\sa.length=2/\sa[1]? =sa[0]?
  case neg=>
   rw [show ofZ ⟨Opc.str .matmul,A,B,name,s,k,n,d⟩ sa sa=_ from aKd h] at hz
   cases hz
  obtain ⟨p,q,rfl⟩:=aKw h.1
  obtain rfl:q=p:=Option.some.inj h.2.2
  have h1:=aCs hv.ok q (by simp)
  have h2:=(aW6 hv.ok).2
  rw [show aA8 [q,q]=1*q*q from rfl,Int.one_mul] at h2
  have h8:q<=8:=by
   rcases Int.lt_or_le 8 q with h9|h9
   · have:=Int.mul_le_mul (show 9<=q by omega) (show 9<=q by omega) (by decide) (by omega)
     omega
   · exact h9
  exact key _ (show q.toNat*(41+41)<=656 by omega)
 all_goals exact key _ (by dsimp only [cBh];omega)
theorem cEj (o:Opc) (A B:Int) (name:ByteArray) (s:List Int) (k:ByteArray) (n:Int) (d:List ByteArray) (sa:List Int):
 ofZ ⟨o.str,A,B,name,s,k,n,d⟩ (if o.many=0 then [] else sa) (if o.many<2 then [] else sa)=ofZ ⟨o.str,A,B,name,s,k,n,d⟩ sa sa:=by cases o<;>rfl
theorem cEk {o:Opc}(hn:aA7 o.str=false){A B:Int}{name:ByteArray}{s:List Int}{k:ByteArray}{n:Int}{d:List ByteArray}{sa:List Int}{v:List Rat}
 (hz:okZ (ofZ ⟨o.str,A,B,name,s,k,n,d⟩ sa sa)=some s) (hv:VT sa v) (hm:∀y∈v,MM y<=10 ^ 41) (hk:k.size<=30) (hd:∀y∈d,y.size<=30):
 FitV o s k n d sa v sa v (bPd o s k n d sa v sa v)/\VT s (bPd o s k n d sa v sa v)/\∀j,j<=(bPd o s k n d sa v sa v).length->RS (aEf ((bPd o s k n d sa v sa v).take j)):=by
 have hp:=aW6 (aKg hz).2
 have he:=cEi hz hv
 have he1:cBh o n sa v.length 41 41 31 31<=45000:=Nat.le_trans (Nat.le_mul_of_pos_left _ (by omega)) he
 have hvl:=hv.vl
 have h31:∀y:ByteArray,y.size<=30->aBa y=true->MM (aN1 y)<=10 ^ 31:=λy h hr=>bPk (n:=30) (by rw [aHv hr];exact h)
 have R:=bZ9 (o:=o) (A:=A) (B:=B) (name:=name) (s:=s) (k:=k) (n:=n) (d:=d) (Ea:=41) (Eb:=41) (Ek:=31) (Ed:=31) hn hz (λ_=>hv) (λ_=>hv) ⟨hm,by decide⟩ ⟨hm,by decide⟩
  (by decide) (by decide) (λh=>h31 k hk h) (by omega) (λy hy h=>h31 y (hd y hy) h) (bOv (E:=41) 2624 hm (by omega) (by decide) (by decide)) (by decide) (by decide) he1
 obtain ⟨R1,R2,R3⟩:=R
 generalize bPd o s k n d sa v sa v=r at R1 R2 R3 ⊢
 generalize cBh o n sa v.length 41 41 31 31=e at R2 he he1
 refine ⟨R1,⟨(aKg hz).2,R3,λy hy=>aG9 (R2 y hy) he1⟩,?_⟩
 rcases Nat.eq_zero_or_pos e with h0|h0
 · exact bOv 64 (λy hy=>Nat.le_trans (R2 y hy) (aG6 (show e<=1 by omega))) (by omega) (by decide) (by decide)
 · exact bOv (r.length*e) R2 (Nat.le_refl _) (Nat.mul_pos (by omega) h0) (Nat.le_trans (Nat.mul_le_mul_right e (show r.length<=(aA8 s).toNat by omega)) he)
theorem cEf {sa:List Int}{da:List ByteArray}{op name:ByteArray}{s:List Int}{k:ByteArray}{n:Int}{d:List ByteArray}{p:Int}(hg:aC1 ⟨l3 sa da op name s k n d,p⟩=true)
 (hda:∀y∈da,y.size<=40) (hk:k.size<=30) (hd:∀y∈d,y.size<=30):aG8 (bdB []) (l3 sa da op name s k n d)/\aAk (bdB []) (l3 sa da op name s k n d) 0=da.map aN1/\VT sa (da.map aN1)/\(da.map aN1).map aAw=da/\VT s (aAk (bdB []) (l3 sa da op name s k n d) 1):=by
 have x0:(l3 sa da op name s k n d)[0]? =some ⟨aA0,0,0,⟨#[]⟩,sa,⟨#[]⟩,0,da⟩:=rfl
 have x1:(l3 sa da op name s k n d)[1]? =some ⟨op,0,0,name,s,k,n,d⟩:=rfl
 have x2:(l3 sa da op name s k n d)[2]? =some ⟨bPc,1,0,⟨#[]⟩,[],⟨#[]⟩,0,[]⟩:=rfl
 obtain ⟨c1,c2,c3⟩:=cEh (E:=41) hg x0 rfl (by decide) (λy hy=>by have:=hda y hy;omega)
 dsimp only at c1 c2 c3
 have v0:aAk (bdB []) (l3 sa da op name s k n d) 0=da.map aN1:=by rw [aFy x0,bAx,if_neg (show ¬aA7 aA0=true by decide)];rfl
 have hsh0:aBv (l3 sa da op name s k n d) 0=sa:=rfl
 have hsh1:aBv (l3 sa da op name s k n d) 1=s:=rfl
 have hw:VT s (aAk (bdB []) (l3 sa da op name s k n d) 1)/\(∀ j,j<=(aAk (bdB []) (l3 sa da op name s k n d) 1).length->RS (aEf ((aAk (bdB []) (l3 sa da op name s k n d) 1).take j)))/\
  ∀o:Opc,op=o.str->aA7 op=false->FitV o s k n d sa (da.map aN1) sa (da.map aN1) (aAk (bdB []) (l3 sa da op name s k n d) 1):=by
  have hin:=aOt hg x1
  obtain ⟨o,ho⟩:=bF4 hin
  dsimp only at ho
  subst ho
  obtain ⟨F,hz⟩:=aOm (o:=o) rfl hin
  dsimp only at hz
  have e0:aBv (List.take 1 (l3 sa da o.str name s k n d)) 0=sa:=rfl
  rw [e0,cEj] at hz
  have hok:=(aKg hz).2
  cases hn:aA7 o.str
  · have v1:aAk (bdB []) (l3 sa da o.str name s k n d) 1=bPd o s k n d sa (da.map aN1) sa (da.map aN1):=by
     rw [aFy x1,bAx,hn,if_neg (by simp),aFg]
     have hv:=aHh (bd:=bdB []) (l:=l3 sa da o.str name s k n d) (p:=0) (j:=1) (by decide) (show 1<=3 by decide)
     rw [v0] at hv
     show bPd o s k n d sa _ sa _=_
     exact congrArg (λz=>bPd o s k n d sa z sa z) hv
    obtain ⟨f1,f2,f3⟩:=cEk hn hz c1 c2 hk hd
    rw [v1]
    exact ⟨f2,f3,λo' h _=>by obtain rfl:=aRt h;exact f1⟩
  · have v1:aAk (bdB []) (l3 sa da o.str name s k n d) 1=aUu s:=by
     rw [aFy x1,bAx,hn,if_pos rfl];rfl
    have hp:=aW6 hok
    have hm:∀y∈aUu s,MM y<=10 ^ 1:=λy hy=>by rw [List.eq_of_mem_replicate hy,aO4];decide
    have hl:(aUu s).length=(aA8 s).toNat:=List.length_replicate
    rw [v1]
    exact ⟨⟨hok,by rw [hl];omega,λy hy=>aG9 (hm y hy) (by decide)⟩,bOv 64 hm (by omega) (by decide) (by decide),λ_ _ h=>absurd h (by simp)⟩
 refine ⟨λj y o hy ho hno ta a tb b ha hb=>?_,v0,c1,c3,hw.1⟩
 have hj:j=0\/j=1\/j=2:=by
  have:=(List.getElem?_eq_some_iff.1 hy).1
  have:(l3 sa da op name s k n d).length=3:=rfl
  omega
 rcases hj with rfl|rfl|rfl
 · obtain rfl:=Option.some.inj (x0.symm.trans hy)
   obtain rfl:=aRt (o:=.const) ho
   rw [v0]
   have:=FitV.const (k:=⟨#[]⟩) (n:=0) (sa:=ta) (a:=a) (sb:=tb) (b:=b) c1
   rw [c3] at this
   exact this
 · obtain rfl:=Option.some.inj (x1.symm.trans hy)
   refine (hw.2.2 o ho hno).any (λh=>?_) (λh=>?_)
   · obtain ⟨e1,e2⟩:=ha h;exact ⟨e1.trans hsh0,e2.trans v0⟩
   · obtain ⟨e1,e2⟩:=hb h;exact ⟨e1.trans hsh0,e2.trans v0⟩
 · obtain rfl:=Option.some.inj (x2.symm.trans hy)
   obtain rfl:=aRt (o:=.sum) ho
   have v2:aAk (bdB []) (l3 sa da op name s k n d) 2=[aEf (aAk (bdB []) (l3 sa da op name s k n d) 1)]:=by
    rw [aFy x2,bAx,if_neg (show ¬aA7 bPc=true by decide)]
    have hv:=aHh (bd:=bdB []) (l:=l3 sa da op name s k n d) (p:=1) (j:=2) (by decide) (show 2<=3 by decide)
    exact congrArg (λz=>[aEf z]) hv
   obtain ⟨e1,e2⟩:=ha (by decide)
   have e1:ta=s:=e1.trans hsh1
   subst e1
   rw [v2,e2]
   exact .sum (show (⟨#[]⟩:ByteArray).size<190000 by decide) hw.1 hw.2.1
end Go.V
namespace Go.V
open Go.N Go.Proofs
set_option maxRecDepth 20000
def cEa:Tab:=[(25,i25),(27,i27),(9,i9),(22,i22),(3,i3),(23,i23),(4,i4)]
theorem cD4:TOK Tryz.prog cEa:=⟨K25,⟨K27,⟨K9,⟨K22,⟨K3,⟨K23,⟨K4,trivial⟩⟩⟩⟩⟩⟩⟩
def cEd:Tab:=[(25,i25),(27,i27),(34,i34),(22,i22),(3,i3),(4,i4)]
theorem cD7:TOK Tryz.prog cEd:=⟨K25,⟨K27,⟨K34,⟨K22,⟨K3,⟨K4,trivial⟩⟩⟩⟩⟩⟩
theorem cEc {o:Opc}(ho:aA7 o.str=true) (A B:Int) (name:ByteArray) (s:List Int) (k:ByteArray) (n:Int) (d:List ByteArray) (sa:List Int) (a:List ByteArray) (sb:List Int) (b:List ByteArray):
 aAc Tryz.prog GL 40 [aBn o.str A B name s k n d,aEv sa a,aEv sb b] (λy=>y= .tup [.agg [.nils,.nils],.int .i64 1]):=by
 unfold aBn aEv
 cases o
 all_goals first|(exact absurd ho (by decide))|skip
 all_goals
  refine aAa cD4 HM Tryz.func40 rfl (by decide +kernel) (by decide +kernel) rfl ?_
  repeat' first|refine sY ⟨?_⟩|(refine sq ?_ ?_<;>refine λh=>⟨?_⟩<;>(first|contradiction|(exfalso;omega)|skip))|fail
  all_goals (conv=>whnf)
  all_goals rfl
theorem cEe {o:Opc}(ho:aA7 o.str=true) (A B:Int) (name:ByteArray) (s:List Int) (k:ByteArray) (n:Int) (d:List ByteArray) (sa:List Int) (a:List ByteArray) (sb:List Int) (b:List ByteArray):
 aAc Tryz.prog GL 15 [aBn o.str A B name s k n d,aEv sa a,aEv sb b] (λy=>y= .tup [.agg [.nils,.nils],.int .i64 1]):=by
 have h1:=cEc ho A B name s k n d sa a sb b
 unfold aBn aEv at h1 ⊢
 generalize o.str=op at h1 ⊢
 refine aAa cD7 HM Tryz.func15 rfl (by decide +kernel) (by decide +kernel) rfl ?_
 repeat' first|refine sY ⟨?_⟩|(refine sq ?_ ?_<;>refine λh=>⟨?_⟩<;>(first|contradiction|(exfalso;omega)|skip))|fail
 all_goals (conv=>whnf)
 all_goals rfl
end Go.V
namespace Go.V
open Go.N Go.Proofs
set_option maxRecDepth 20000
def cD9:Tab:=[(25,i25),(27,i27),(29,i29),(31,i31),(4,i4),(3,i3),(22,i22),(23,i23),(34,i34),(9,i9)]
theorem aA6:TOK Tryz.prog cD9:=⟨K25,⟨K27,⟨K29,⟨K31,⟨K4,⟨K3,⟨K22,⟨K23,⟨K34,⟨K9,trivial⟩⟩⟩⟩⟩⟩⟩⟩⟩⟩
theorem cEl {α:Type}{l:List α}(h:l.length=3):∃a b c,l=[a,b,c]:=by
 match l,h with
 |[a,b,c],_=>exact ⟨a,b,c,rfl⟩
set_option maxHeartbeats 8000000 in
open Classical in
theorem cEb (x:Nd) (sa:List Int) (da:List ByteArray):aAc Tryz.prog GL 3 [.agg x.cells,.agg [.ro 1 (aAh sa),.ro 1 (aCm da)]] (λr=>r= .bool true):=by
 have haw:=bLz
 obtain ⟨op,A,B,name,s,k,n,d⟩:=x
 have hsm:=aK5 GL ⟨[⟨op,A,B,name,s,k,n,d⟩],0⟩
 replace hsm:aAc Tryz.prog GL 11 [.agg [.ro 8 [[.str op,.int .i64 A,.int .i64 B,.str name,.ro 1 (aAh s),.str k,.int .i64 n,.ro 1 (aCm d)]],.int .i64 0]] (λy=>y= .bool (aFh ⟨[⟨op,A,B,name,s,k,n,d⟩],0⟩)):=hsm
 have hst:=bDk sa da
 unfold aEv at hst
 show aAc _ _ _ [.agg [.str op,.int .i64 A,.int .i64 B,.str name,.ro 1 (aAh s),.str k,.int .i64 n,.ro 1 (aCm d)],_] _
 generalize hS:aFh ⟨[⟨op,A,B,name,s,k,n,d⟩],0⟩=S at hsm
 cases S
 · refine aAa aA6 HM Tryz.func3 rfl (by decide +kernel) (by decide +kernel) rfl ?_
   repeat' first|refine sY ⟨?_⟩|(refine sq ?_ ?_<;>refine λh=>⟨?_⟩<;>(first|contradiction|(exfalso;omega)|skip))|fail
   all_goals (conv=>whnf)
   all_goals rfl
 generalize hT:aJr sa da=T at hst
 cases T
 · refine aAa aA6 HM Tryz.func3 rfl (by decide +kernel) (by decide +kernel) rfl ?_
   repeat' first|refine sY ⟨?_⟩|(refine sq ?_ ?_<;>refine λh=>⟨?_⟩<;>(first|contradiction|(exfalso;omega)|skip))|fail
   all_goals (conv=>whnf)
   all_goals rfl
 simp only [aFh,aHz,Bool.and_eq_true,decide_eq_true_eq,List.all_eq_true,List.mem_singleton,forall_eq] at hS
 simp only [aJr,Bool.and_eq_true,decide_eq_true_eq,List.all_eq_true] at hT
 obtain ⟨_,⟨⟨⟨hs10,hd70⟩,hk30⟩,hn30⟩,hd30⟩:=hS
 obtain ⟨hsa,hda70,hda⟩:=hT
 have hd30:∀y∈d,y.size<=30:=λy hy=>by have:=hd30 y hy;simpa [aR6] using this
 have hl3:∀y∈l3 sa da op name s k n d,y.Sm:=λy hy=>by
  simp only [l3,List.mem_cons,List.not_mem_nil,or_false] at hy
  rcases hy with rfl|rfl|rfl
  · exact ⟨(show (⟨#[]⟩:ByteArray).size<=1000 by decide),(show (⟨#[]⟩:ByteArray).size<=1000 by decide),(show sa.length<=1000 by omega),(show da.length<=1000 by omega),λz hz=>by have:=hda z hz;omega⟩
  · exact ⟨(show name.size<=1000 by omega),(show k.size<=1000 by omega),(show s.length<=1000 by omega),(show d.length<=1000 by omega),λz hz=>by have:=hd30 z hz;omega⟩
  · exact ⟨(show (⟨#[]⟩:ByteArray).size<=1000 by decide),(show (⟨#[]⟩:ByteArray).size<=1000 by decide),Nat.zero_le _,Nat.zero_le _,λz hz=>by simp at hz⟩
 have hfA:=bDd (bdB []) ⟨l3 sa da op name s k n d,2⟩ hl3 (show 3<=1000 by decide) (λh=>(cEf h hda hk30 hd30).1)
 have hf:=hfA.args (xs:=[.agg [.ro 8 [[.str aA0,.int .i64 0,.int .i64 0,.str ⟨#[]⟩,.ro 1 (aAh sa),.str ⟨#[]⟩,.int .i64 0,.ro 1 (aCm da)],[.str op,.int .i64 0,.int .i64 0,.str name,.ro 1 (aAh s),.str k,.int .i64 n,.ro 1 (aCm d)],
  [.str bPc,.int .i64 1,.int .i64 0,.str ⟨#[]⟩,.nils,.str ⟨#[]⟩,.int .i64 0,.nils]],.int .i64 2]])
  ⟨_,_,rfl,⟨_,rfl,_,_,rfl,⟨_,rfl,_,_,rfl,aJ0 _,_,_,rfl,aJ0 _,_,_,rfl,⟨_,_,rfl,rfl,_,_,rfl,rfl,_,_,rfl,rfl,_,_,rfl,rfl,_,_,rfl,aDa 1,_,_,rfl,rfl,_,_,rfl,rfl,_,_,rfl,aDa 1,rfl⟩,rfl⟩,_,_,rfl,rfl,rfl⟩,rfl⟩
 clear hfA
 cases hg:aC1 ⟨l3 sa da op name s k n d,2⟩
 · rw [hg,if_neg (by simp)] at hf
   refine aAa aA6 HM Tryz.func3 rfl (by decide +kernel) (by decide +kernel) rfl ?_
   repeat' first|refine sY ⟨?_⟩|(refine sq ?_ ?_<;>refine λh=>⟨?_⟩<;>(first|contradiction|(exfalso;omega)|skip))|fail
   all_goals (conv=>whnf)
   all_goals rfl
 rw [hg,if_pos rfl] at hf
 obtain ⟨hG,hv0,hvt0,hr0,hvt1⟩:=cEf hg hda hk30 hd30
 have x1:(⟨l3 sa da op name s k n d,2⟩:Gr).nodes[1]? =some ⟨op,0,0,name,s,k,n,d⟩:=rfl
 have hnm:=aW1 hg x1
 obtain ⟨o,ho,F⟩:=aIo hg x1
 have hleaf:=bXg hg x1
 dsimp only at hnm ho hleaf
 have hlen:(aAm (bdB []) (l3 sa da op name s k n d) 3).length=3:=aBs 3 (Nat.le_refl 3)
 have hrl:=rowN_length (aAm (bdB []) (l3 sa da op name s k n d) 3)
 have hf0:=hf
 clear hf
 have hf:aAc _ _ _ _ (λy=>y= .tup [.agg [.ro 8 (aAv (aAm (bdB []) (l3 sa da op name s k n d) 3)),.int .i64 2],.int .i64 0]):=hf0
 clear hl3
 cases hno:aA7 op
 case true=>
  have hne:¬name=⟨#[]⟩:=λe=>by rw [hnm.1 e] at hno;cases hno
  rw [ho] at hno
  have hnode:=cEe hno 0 0 name s k n d sa da sa da
  rw [<- ho] at hnode
  unfold aBn aEv at hnode
  clear hleaf F ho hno
  clear hrl hf0
  generalize aAm (bdB []) (l3 sa da op name s k n d) 3=Fo at hf hlen
  obtain ⟨y1,y2,y3,rfl⟩:=cEl hlen
  replace hf:aAc _ _ _ _ (λy=>y= .tup [.agg [.ro 8 [y1.cells,y2.cells,y3.cells],.int .i64 2],.int .i64 0]):=hf
  generalize y1.cells=c1 at hf
  generalize y2.cells=c2 at hf
  generalize y3.cells=c3 at hf
  clear hlen hG hv0 hvt0 hr0 hvt1 x1 hnm hg
  refine aAa aA6 HM Tryz.func3 rfl (by decide +kernel) (by decide +kernel) rfl ?_
  repeat' first|refine sY ⟨?_⟩|(refine sq ?_ ?_<;>refine λh=>⟨?_⟩<;>(first|contradiction|(exfalso;omega)|skip))|fail
  all_goals (conv=>whnf)
  all_goals rfl
 case false=>
  have hname:=hnm.2 hno
  have hfit:=hG 1 _ o x1 ho hno sa (da.map aN1) sa (da.map aN1) (λ_=>⟨rfl,hv0.symm⟩) (λ_=>⟨rfl,hv0.symm⟩)
  dsimp only at hfit
  have hF1:∃(nm kk:ByteArray) (nn:Int),(aAm (bdB []) (l3 sa da op name s k n d) 3)[1]? =some ⟨aA0,0,0,nm,s,kk,nn,(aAk (bdB []) (l3 sa da op name s k n d) 1).map aAw⟩:=by
   rw [aCo x1 (show 1<3 by decide) (Nat.le_refl 3)]
   rcases Nat.eq_zero_or_pos (aEe op) with h0|h0
   · have hc:=hleaf hno h0
     obtain rfl:=aRt (o:=o) (o':=.const) (ho.symm.trans hc)
     rw [aGx (aV8 h0),<-(bIb hfit).1,hc]
     exact ⟨_,_,_,rfl⟩
   · rw [aHo]
     · exact ⟨_,_,_,rfl⟩
     · have x0:(l3 sa da op name s k n d)[0]? =some ⟨aA0,0,0,⟨#[]⟩,sa,⟨#[]⟩,0,da⟩:=rfl
       have e0:bF1 (aAm (bdB []) (l3 sa da op name s k n d) 1) 0=aA0:=by
        have h:=aCo (bd:=bdB []) x0 (show 0<1 by decide) (show 1<=3 by decide)
        rw [aGx (aV8 cD5)] at h
        exact bF2 (k:=0) h
       rw [aN9]
       dsimp only
       rw [e0,decide_eq_true h0,decide_eq_true (rfl:aA0=aA0),Bool.or_true]
       rfl
  obtain ⟨nm,kk,nn,hF1⟩:=hF1
  have gF:(aAv (aAm (bdB []) (l3 sa da op name s k n d) 3))[1]? =some [.str aA0,.int .i64 0,.int .i64 0,.str nm,.ro 1 (aAh s),.str kk,.int .i64 nn,.ro 1 (aCm ((aAk (bdB []) (l3 sa da op name s k n d) 1).map aAw))]:=by rw [aAv,List.getElem?_map,hF1];rfl
  have hvl:=hvt1.vl
  have hE:=aK3 s s ((aAk (bdB []) (l3 sa da op name s k n d) 1).map aAw) ((aAk (bdB []) (l3 sa da op name s k n d) 1).map aAw) (by omega) (by omega) (by rw [List.length_map];omega)
  rw [decide_eq_true rfl,decide_eq_true rfl,Bool.and_true] at hE
  have hnode:=bDc 0 0 name hfit
  rw [<- ho] at hnode
  unfold aBn aAs aAj at hnode
  rw [hr0] at hnode
  unfold aEv at hE
  clear hleaf F ho hno hfit hF1 x1 hG hv0
  generalize aAk (bdB []) (l3 sa da op name s k n d) 1=V at*
  clear hrl hf0
  generalize aAm (bdB []) (l3 sa da op name s k n d) 3=Fo at hf hlen gF
  obtain ⟨y1,y2,y3,rfl⟩:=cEl hlen
  have e2:y2.cells=_:=Option.some.inj gF
  replace hf:aAc _ _ _ _ (λy=>y= .tup [.agg [.ro 8 [y1.cells,y2.cells,y3.cells],.int .i64 2],.int .i64 0]):=hf
  rw [e2] at hf
  generalize y1.cells=c1 at hf
  generalize y3.cells=c3 at hf
  clear hlen gF e2 hnm hg
  subst hname
  refine aAa aA6 HM Tryz.func3 rfl (by decide +kernel) (by decide +kernel) rfl ?_
  repeat' first|refine sY ⟨?_⟩|(refine sq ?_ ?_<;>refine λh=>⟨?_⟩<;>(first|contradiction|(exfalso;omega)|skip))|fail
  refine ⟨by decide +kernel,[0,1,3,7,15,31,63,127,255,511,1023,2047,4095,8191,16383,32767,2047,67583,198655,460799,985087,2097151,2047,8388607,16777215,33554431,67108863,134217727,268435455],by decide +kernel,?_⟩
  conv=>whnf
  refine x_1 rfl ?_
  conv=>whnf
  refine x_1 rfl ?_
  conv=>whnf
  refine x_1 rfl ?_
  clear hf hnode hsm hst
  conv=>whnf
  refine .inl ⟨_,hE,?_⟩
  conv=>whnf
  refine .inl ⟨_,haw,?_⟩
  conv=>whnf
  rfl
end Go.V
