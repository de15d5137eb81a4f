/-
  Lemmas (part 10) for: Fold and Eval: FoldKeeps, EvalAll, EvalScale hold for all arguments; no condition.
-/
import Derived.Test.YtanlechpmkpbiaaGreatDoorKeep8
import Derived.Test.YtanlechpmkpbiaaGreatDoorKeep9
set_option linter.all false
namespace Go.V
open Go.N Go.Proofs
set_option maxRecDepth 20000
def bCs:Tab:=[(25,i25),(27,i27),(9,i9),(22,i22),(23,i23),(149,aV9),(3,i3),(156,bWu)]
theorem aAy:TOK Tryz.prog bCs:=⟨K25,⟨K27,⟨K9,⟨K22,⟨K23,⟨aXt,⟨K3,⟨bX8,trivial⟩⟩⟩⟩⟩⟩⟩⟩
def aBn (op:ByteArray) (A B:Int) (name:ByteArray) (shape:List Int) (k:ByteArray) (n:Int) (data:List ByteArray):AV:=
 .agg [.str op,.int .i64 A,.int .i64 B,.str name,.ro 1 (aAh shape),.str k,.int .i64 n,.ro 1 (aCm data)]
section
variable (A B:Int) (name:ByteArray) (shape:List Int) (k:ByteArray) (n:Int) (data:List ByteArray)
theorem aVq (sa sb:List Int) (la lb:List ByteArray):aAc Tryz.prog GL 59 [aBn aA0 A B name shape k n data,aEv sa la,aEv sb lb] (λy=>y=aEv shape data):=by
 unfold aBn aEv
 refine aAa aAy HM Tryz.func59 rfl (by decide +kernel) (by decide +kernel) rfl ?_
 repeat' first|refine sY ⟨?_⟩|(refine sq ?_ ?_<;>refine λh=>⟨?_⟩<;>(first|contradiction|(exfalso;omega)|skip))|fail
 all_goals (conv=>whnf)
 all_goals rfl
theorem bC5 {s:List Int}{a b:List Rat}(ha:VT s a) (hb:VT s b) (hrs:∀x∈List.zipWith (λx y=>x+y) a b,RS x):aAc Tryz.prog GL 59 [aBn bBe A B name shape k n data,aAs s a,aAs s b] (λy=>y=aAs s (List.zipWith (λx y=>x+y) a b)):=by
 have h:=aZf ha hb hrs
 unfold aBn
 unfold aAs at h ⊢
 refine aAa aAy HM Tryz.func59 rfl (by decide +kernel) (by decide +kernel) rfl ?_
 repeat' first|refine sY ⟨?_⟩|(refine sq ?_ ?_<;>refine λh=>⟨?_⟩<;>(first|contradiction|(exfalso;omega)|skip))|fail
 all_goals (conv=>whnf)
 all_goals rfl
theorem bC8 {s:List Int}{a b:List Rat}(ha:VT s a) (hb:VT s b) (hrs:∀x∈List.zipWith (λx y=>x - y) a b,RS x):aAc Tryz.prog GL 59 [aBn bI2 A B name shape k n data,aAs s a,aAs s b] (λy=>y=aAs s (List.zipWith (λx y=>x - y) a b)):=by
 have h:=aZh ha hb hrs
 unfold aBn
 unfold aAs at h ⊢
 refine aAa aAy HM Tryz.func59 rfl (by decide +kernel) (by decide +kernel) rfl ?_
 repeat' first|refine sY ⟨?_⟩|(refine sq ?_ ?_<;>refine λh=>⟨?_⟩<;>(first|contradiction|(exfalso;omega)|skip))|fail
 all_goals (conv=>whnf)
 all_goals rfl
theorem bC7 {s:List Int}{a b:List Rat}(ha:VT s a) (hb:VT s b) (hrs:∀x∈List.zipWith (λx y=>x*y) a b,RS x):aAc Tryz.prog GL 59 [aBn bI1 A B name shape k n data,aAs s a,aAs s b] (λy=>y=aAs s (List.zipWith (λx y=>x*y) a b)):=by
 have h:=aZg ha hb hrs
 unfold aBn
 unfold aAs at h ⊢
 refine aAa aAy HM Tryz.func59 rfl (by decide +kernel) (by decide +kernel) rfl ?_
 repeat' first|refine sY ⟨?_⟩|(refine sq ?_ ?_<;>refine λh=>⟨?_⟩<;>(first|contradiction|(exfalso;omega)|skip))|fail
 all_goals (conv=>whnf)
 all_goals rfl
theorem bC6 {s:List Int}{a b:List Rat}(ha:VT s a) (hb:VT s b) (hd:∀i (h:i<a.length),RS (a[i] - b[i]'(by have:=ha.len;have:=hb.len;omega))) (hrs:∀x∈List.zipWith bDz a b,RS x):aAc Tryz.prog GL 59 [aBn aXv A B name shape k n data,aAs s a,aAs s b] (λy=>y=aAs s (List.zipWith bDz a b)):=by
 have h:=bMf ha hb hd hrs
 unfold aBn
 unfold aAs at h ⊢
 refine aAa aAy HM Tryz.func59 rfl (by decide +kernel) (by decide +kernel) rfl ?_
 repeat' first|refine sY ⟨?_⟩|(refine sq ?_ ?_<;>refine λh=>⟨?_⟩<;>(first|contradiction|(exfalso;omega)|skip))|fail
 all_goals (conv=>whnf)
 all_goals rfl
theorem aVp {s:List Int}{a b:List Rat}(ha:VT s a) (hb:VT s b) (hd:∀i (h:i<a.length),RS (a[i] - b[i]'(by have:=ha.len;have:=hb.len;omega))) (hrs:∀x∈List.zipWith aF3 a b,RS x):aAc Tryz.prog GL 59 [aBn aHy A B name shape k n data,aAs s a,aAs s b] (λy=>y=aAs s (List.zipWith aF3 a b)):=by
 have h:=bDl ha hb hd hrs
 unfold aBn
 unfold aAs at h ⊢
 refine aAa aAy HM Tryz.func59 rfl (by decide +kernel) (by decide +kernel) rfl ?_
 repeat' first|refine sY ⟨?_⟩|(refine sq ?_ ?_<;>refine λh=>⟨?_⟩<;>(first|contradiction|(exfalso;omega)|skip))|fail
 all_goals (conv=>whnf)
 all_goals rfl
theorem aY7 {s:List Int}{a:List Rat}(ha:VT s a) (hF:∀x,RS x->RS (aIh x)) (sb:List Int) (lb:List ByteArray):aAc Tryz.prog GL 59 [aBn aMk A B name shape k n data,aAs s a,aEv sb lb] (λy=>y=aAs s (a.map aIh)):=by
 have h:=aJ5 aMk aIh ha hF (λx hx=>bH4 hx)
 unfold aBn aEv
 unfold aAs at h ⊢
 refine aAa aAy HM Tryz.func59 rfl (by decide +kernel) (by decide +kernel) rfl ?_
 repeat' first|refine sY ⟨?_⟩|(refine sq ?_ ?_<;>refine λh=>⟨?_⟩<;>(first|contradiction|(exfalso;omega)|skip))|fail
 all_goals (conv=>whnf)
 all_goals rfl
theorem bC4 {s:List Int}{a:List Rat}(ha:VT s a) (hF:∀x,RS x->RS (aVh x)) (sb:List Int) (lb:List ByteArray):aAc Tryz.prog GL 59 [aBn bGj A B name shape k n data,aAs s a,aEv sb lb] (λy=>y=aAs s (a.map aVh)):=by
 have h:=aJ5 bGj aVh ha hF (λx hx=>bMe hx)
 unfold aBn aEv
 unfold aAs at h ⊢
 refine aAa aAy HM Tryz.func59 rfl (by decide +kernel) (by decide +kernel) rfl ?_
 repeat' first|refine sY ⟨?_⟩|(refine sq ?_ ?_<;>refine λh=>⟨?_⟩<;>(first|contradiction|(exfalso;omega)|skip))|fail
 all_goals (conv=>whnf)
 all_goals rfl
theorem aY9 {s:List Int}{a:List Rat}(ha:VT s a) (hF:∀x,RS x->RS (aIl x)) (sb:List Int) (lb:List ByteArray):aAc Tryz.prog GL 59 [aBn aXj A B name shape k n data,aAs s a,aEv sb lb] (λy=>y=aAs s (a.map aIl)):=by
 have h:=aJ5 aXj aIl ha hF (λx hx=>bH6 hx)
 unfold aBn aEv
 unfold aAs at h ⊢
 refine aAa aAy HM Tryz.func59 rfl (by decide +kernel) (by decide +kernel) rfl ?_
 repeat' first|refine sY ⟨?_⟩|(refine sq ?_ ?_<;>refine λh=>⟨?_⟩<;>(first|contradiction|(exfalso;omega)|skip))|fail
 all_goals (conv=>whnf)
 all_goals rfl
theorem aY8 {s:List Int}{a:List Rat}(ha:VT s a) (hF:∀x,RS x->RS (aIi x)) (sb:List Int) (lb:List ByteArray):aAc Tryz.prog GL 59 [aBn aXi A B name shape k n data,aAs s a,aEv sb lb] (λy=>y=aAs s (a.map aIi)):=by
 have h:=aJ5 aXi aIi ha hF (λx hx=>bH5 hx)
 unfold aBn aEv
 unfold aAs at h ⊢
 refine aAa aAy HM Tryz.func59 rfl (by decide +kernel) (by decide +kernel) rfl ?_
 repeat' first|refine sY ⟨?_⟩|(refine sq ?_ ?_<;>refine λh=>⟨?_⟩<;>(first|contradiction|(exfalso;omega)|skip))|fail
 all_goals (conv=>whnf)
 all_goals rfl
theorem aSt (p q c:Nat){a b:List Rat}(ha:VT [(p:Int),(q:Int)] a) (hb:VT [(q:Int),(c:Int)] b) (hok:aAl [(p:Int),(c:Int)]=true)
 (hm:∀i k j,i<p->k<c->j<q->RS (atR a (i*q+j)*atR b (j*c+k))) (hs:∀i k j,i<p->k<c->j<=q->RS (aEf ((aCv q c a b i k).take j))):
 aAc Tryz.prog GL 59 [aBn aJo A B name shape k n data,aAs [(p:Int),(q:Int)] a,aAs [(q:Int),(c:Int)] b] (λy=>y=aAs [(p:Int),(c:Int)] (bIu p q c a b)):=by
 have h:=aZi p q c ha hb hok hm hs
 unfold aBn
 unfold aAs at h ⊢
 refine aAa aAy HM Tryz.func59 rfl (by decide +kernel) (by decide +kernel) rfl ?_
 repeat' first|refine sY ⟨?_⟩|(refine sq ?_ ?_<;>refine λh=>⟨?_⟩<;>(first|contradiction|(exfalso;omega)|skip))|fail
 all_goals (conv=>whnf)
 all_goals rfl
theorem aM3 (p q:Nat){a:List Rat}(ha:VT [(p:Int),(q:Int)] a) (sb:List Int) (lb:List ByteArray):
 aAc Tryz.prog GL 59 [aBn aF1 A B name shape k n data,aAs [(p:Int),(q:Int)] a,aEv sb lb] (λy=>y=aAs [(q:Int),(p:Int)] (aG7 p q a)):=by
 have h:=aP2 p q ha
 unfold aBn aEv
 unfold aAs at h ⊢
 refine aAa aAy HM Tryz.func59 rfl (by decide +kernel) (by decide +kernel) rfl ?_
 repeat' first|refine sY ⟨?_⟩|(refine sq ?_ ?_<;>refine λh=>⟨?_⟩<;>(first|contradiction|(exfalso;omega)|skip))|fail
 all_goals (conv=>whnf)
 all_goals rfl
theorem aPu (sa sb:List Int) (la lb:List ByteArray):aAc Tryz.prog GL 59 [aBn aE7 A B name shape k n data,aEv sa la,aEv sb lb] (λy=>y=aEv shape la):=by
 unfold aBn aEv
 refine aAa aAy HM Tryz.func59 rfl (by decide +kernel) (by decide +kernel) rfl ?_
 repeat' first|refine sY ⟨?_⟩|(refine sq ?_ ?_<;>refine λh=>⟨?_⟩<;>(first|contradiction|(exfalso;omega)|skip))|fail
 all_goals (conv=>whnf)
 all_goals rfl
set_option maxHeartbeats 4000000 in
theorem aVs {s:List Int}{a:List Rat}(ha:VT s a){kk:Rat}(hk:RS kk) (hr:∀x∈a,RS (x*kk)) (hs:∀k,k<=a.length->RS (aEf (a.take k))) (sb:List Int) (lb:List ByteArray):
 aAc Tryz.prog GL 59 [aBn aB4 A B name shape (aAw kk) n data,aAs s a,aEv sb lb] (λy=>y=aAs shape (a.map λx=>x*kk)):=by
 obtain ⟨r,hrd⟩:∃r,r=a.map λx=>x*kk:=⟨_,rfl⟩
 rw [<- hrd]
 have hrl:r.length=a.length:=by rw [hrd,List.length_map]
 have hrr:∀x∈r,RS x:=λx hx=>by rw [hrd] at hx;obtain ⟨y,hy,rfl⟩:=List.mem_map.1 hx;exact hr y hy
 have hc:∀i (hi:i<a.length),aAc Tryz.prog GL 119 [aC2 a[i],aC2 kk] (λv=>v=aC2 (r[i]'(by omega))):=λi hi=>by
  have:=aI1 (ha.rs a[i] (List.getElem_mem hi)) hk
  subst hrd;rw [List.getElem_map];exact this
 clear hrd hr
 have hkr:=aP1 hk
 unfold aC2 at hkr
 obtain ⟨k,hkk⟩:∃k,k=aAw kk:=⟨_,rfl⟩
 rw [<- hkk] at hkr ⊢
 have hv:=ha.vl
 have hal:=aAg a
 have hra:=ha.rs
 have hof:=aEm shape r hrr (by omega)
 rw [aE4 (r:=r) (n:=(aB2 r).length) rfl] at hof
 obtain ⟨X,hX⟩:∃X,X=aAj r:=⟨_,rfl⟩
 have hXl:X.length=a.length:=by rw [hX,aAg];omega
 have e0:aAs shape r= .agg [.ro 1 (aAh shape),.ro 1 X]:=by rw [aAs,hX]
 rw [e0] at hof ⊢
 clear hX e0
 have ata:=λi (hi:i<a.length)=>aCa s (i:=i) hi ha.rs
 unfold aBn aEv
 unfold aAs at ata ⊢
 refine aAa aAy HM Tryz.func59 rfl (by decide +kernel) (by decide +kernel) rfl ?_
 repeat' first|refine sY ⟨?_⟩|(refine sq ?_ ?_<;>refine λh=>⟨?_⟩<;>(first|contradiction|(exfalso;omega)|skip))|fail
 skip
 refine ⟨[3,4,6,7,8,10,11],[0,1,3,4,5],λm st=>∃i:Nat,i<=a.length/\m=a.length - i/\((i=0/\st=⟨[(3,.bptr 0 0),(4,.bptr 1 0),(6,.bptr 2 0),(7,.nils),(8,.bptr 3 0),(10,.bptr 4 0),(11,.int .i64 (i:Nat))],[.box 25 [.str aB4,.int .i64 A,.int .i64 B,.str name,.ro 1 (aAh shape),.str k,.int .i64 n,.ro 1 (aCm data)],.box 27 [.ro 1 (aAh s),.ro 1 (aAj a)],.box 27 [.nils,.nils],.box 149 (aGq kk),.box 149 (aGq (aEf (a.take i)))]⟩)\/(0<i/\st=⟨[(3,.bptr 0 0),(4,.bptr 1 0),(6,.bptr 2 0),(7,.own 5 0 (aB2 (r.take i)).length),(8,.bptr 3 0),(10,.bptr 4 0),(11,.int .i64 (i:Nat))],[.box 25 [.str aB4,.int .i64 A,.int .i64 B,.str name,.ro 1 (aAh shape),.str k,.int .i64 n,.ro 1 (aCm data)],.box 27 [.ro 1 (aAh s),.ro 1 (aAj a)],.box 27 [.nils,.nils],.box 149 (aGq kk),.box 149 (aGq (aEf (a.take i))),.row false 149 2 (aB2 (r.take i))]⟩)),rfl,
  ⟨a.length,0,by omega,rfl,.inl ⟨rfl,Eq.trans rfl (congrArg (λz:List AV=>(⟨[(3,.bptr 0 0),(4,.bptr 1 0),(6,.bptr 2 0),(7,.nils),(8,.bptr 3 0),(10,.bptr 4 0),(11,.int .i64 (0:Nat))],[.box 25 [.str aB4,.int .i64 A,.int .i64 B,.str name,.ro 1 (aAh shape),.str k,.int .i64 n,.ro 1 (aCm data)],.box 27 [.ro 1 (aAh s),.ro 1 (aAj a)],.box 27 [.nils,.nils],.box 149 (aGq kk),.box 149 (z)]⟩:St)) (show [.str ⟨#[48]⟩,.str ⟨#[49]⟩]=aGq (aEf (a.take 0)) by rw [List.take_zero,aEr,aGe]))⟩⟩,?_⟩
 rintro m _ ⟨i,hi,hm,hst⟩
 have hol:(aB2 (r.take i)).length=i:=by rw [aB6,List.length_take];omega
 rcases Nat.lt_or_ge i a.length with hil|hge
 · have h1:=ata i hil
   have hadd:=aEl (hs i (by omega)) (hra a[i] (List.getElem_mem hil))
   rw [<- aDt hil] at hadd
   have hop:=hc i hil
   unfold aC2 at h1 hadd hop
   rcases hst with ⟨h0,rfl⟩|⟨h0,rfl⟩
   · repeat' first|refine sY ⟨?_⟩|(refine sq ?_ ?_<;>refine λh=>⟨?_⟩<;>(first|contradiction|(exfalso;omega)|skip))|fail
     conv=>whnf
     refine ⟨Nat.le_of_ble_eq_true rfl,λh=>Nat.succ_ne_zero _ (congrArg List.length h),?_⟩
     repeat' first|refine sY ⟨?_⟩|(refine sq ?_ ?_<;>refine λh=>⟨?_⟩<;>(first|contradiction|(exfalso;omega)|skip))|fail
     refine ⟨[0,1,2,3,4,7],a.length - (i+1),rfl,by omega,i+1,by omega,rfl,.inr ⟨by omega,?_⟩⟩
     have hone:aB2 (r.take (i+1))=[aGq (r[i]'(by omega))]:=by subst h0;rw [aD5 (by omega)]
     exact Eq.trans rfl (congrArg (λz:List (List AV)=>(⟨[(3,.bptr 0 0),(4,.bptr 1 0),(6,.bptr 2 0),(7,.own 5 0 z.length),(8,.bptr 3 0),(10,.bptr 4 0),(11,.int .i64 (i+1:Nat))],[.box 25 [.str aB4,.int .i64 A,.int .i64 B,.str name,.ro 1 (aAh shape),.str k,.int .i64 n,.ro 1 (aCm data)],.box 27 [.ro 1 (aAh s),.ro 1 (aAj a)],.box 27 [.nils,.nils],.box 149 (aGq kk),.box 149 (aGq (aEf (a.take (i+1)))),.row false 149 2 z]⟩:St)) hone.symm)
   · repeat' first|refine sY ⟨?_⟩|(refine sq ?_ ?_<;>refine λh=>⟨?_⟩<;>(first|contradiction|(exfalso;omega)|skip))|fail
     refine ⟨Nat.le_refl _,(show ((aB2 (r.take i)).length+1)*32<=140737488355328 by omega),_,aDd (by omega),?_⟩
     repeat' first|refine sY ⟨?_⟩|(refine sq ?_ ?_<;>refine λh=>⟨?_⟩<;>(first|contradiction|(exfalso;omega)|skip))|fail
     all_goals exact ⟨[0,1,2,3,4,8],a.length - (i+1),rfl,by omega,i+1,by omega,rfl,.inr ⟨by omega,rfl⟩⟩
 · rcases hst with ⟨rfl,rfl⟩|⟨h0,rfl⟩
   · exact absurd hge (by omega)
   · have e:r.take i=r:=List.take_of_length_le (by omega)
     rw [e]
     repeat' first|refine sY ⟨?_⟩|(refine sq ?_ ?_<;>refine λh=>⟨?_⟩<;>(first|contradiction|(exfalso;omega)|skip))|fail
     refine ⟨[3,4,6,7,13],[0,1,2,5],λm st=>m=0/\st=⟨[(3,.bptr 0 0),(4,.bptr 1 0),(6,.bptr 2 0),(7,.own 3 0 (aB2 r).length),(13,.int .i64 0)],[.box 25 [.str aB4,.int .i64 A,.int .i64 B,.str name,.ro 1 (aAh shape),.str k,.int .i64 n,.ro 1 (aCm data)],.box 27 [.ro 1 (aAh s),.ro 1 (aAj a)],.box 27 [.nils,.nils],.row false 149 2 (aB2 r)]⟩,rfl,⟨0,rfl,rfl⟩,?_⟩
     rintro m2 _ ⟨rfl,rfl⟩
     cases X with
     |nil=>simp at hXl;omega
     |cons c0 cs0=>
      cases shape
      all_goals (repeat' first|refine sY ⟨?_⟩|(refine sq ?_ ?_<;>refine λh=>⟨?_⟩<;>(first|contradiction|(exfalso;omega)|skip))|fail)
      all_goals (conv=>whnf)
      all_goals rfl
set_option maxHeartbeats 4000000 in
theorem aVr (hk:k.size<190000){s:List Int}{a:List Rat}(ha:VT s a) (nn:Nat) (hn:nn<=6) (hp:∀x∈a,∀j,j<=nn->RS (x ^ j)) (hs:∀k,k<=a.length->RS (aEf (a.take k))) (sb:List Int) (lb:List ByteArray):
 aAc Tryz.prog GL 59 [aBn aCn A B name shape k (nn:Nat) data,aAs s a,aEv sb lb] (λy=>y=aAs shape (a.map λx=>x ^ nn)):=by
 obtain ⟨r,hrd⟩:∃r,r=a.map λx=>x ^ nn:=⟨_,rfl⟩
 rw [<- hrd]
 have hrl:r.length=a.length:=by rw [hrd,List.length_map]
 have hrr:∀x∈r,RS x:=λx hx=>by rw [hrd] at hx;obtain ⟨y,hy,rfl⟩:=List.mem_map.1 hx;exact hp y hy nn (Nat.le_refl _)
 have hc:∀i (hi:i<a.length),aAc Tryz.prog GL 120 [aC2 a[i],.int .i64 (nn:Nat)] (λv=>v=aC2 (r[i]'(by omega))):=λi hi=>by
  have:=bDh nn hn (hp a[i] (List.getElem_mem hi)) (ha.rs a[i] (List.getElem_mem hi))
  subst hrd;rw [List.getElem_map];exact this
 clear hrd
 have hkr:=aEx GL k hk
 have hv:=ha.vl
 have hal:=aAg a
 have hra:=ha.rs
 have hof:=aEm shape r hrr (by omega)
 rw [aE4 (r:=r) (n:=(aB2 r).length) rfl] at hof
 obtain ⟨X,hX⟩:∃X,X=aAj r:=⟨_,rfl⟩
 have hXl:X.length=a.length:=by rw [hX,aAg];omega
 have e0:aAs shape r= .agg [.ro 1 (aAh shape),.ro 1 X]:=by rw [aAs,hX]
 rw [e0] at hof ⊢
 clear hX e0
 have ata:=λi (hi:i<a.length)=>aCa s (i:=i) hi ha.rs
 unfold aBn aEv
 unfold aAs at ata ⊢
 refine aAa aAy HM Tryz.func59 rfl (by decide +kernel) (by decide +kernel) rfl ?_
 repeat' first|refine sY ⟨?_⟩|(refine sq ?_ ?_<;>refine λh=>⟨?_⟩<;>(first|contradiction|(exfalso;omega)|skip))|fail
 (conv=>whnf);(rintro _ ⟨kp,kq,rfl,_⟩);(repeat' first|refine sY ⟨?_⟩|(refine sq ?_ ?_<;>refine λh=>⟨?_⟩<;>(first|contradiction|(exfalso;omega)|skip))|fail)
 refine ⟨[3,4,6,7,8,10,11],[0,1,3,4,5],λm st=>∃i:Nat,i<=a.length/\m=a.length - i/\((i=0/\st=⟨[(3,.bptr 0 0),(4,.bptr 1 0),(6,.bptr 2 0),(7,.nils),(8,.bptr 3 0),(10,.bptr 4 0),(11,.int .i64 (i:Nat))],[.box 25 [.str aCn,.int .i64 A,.int .i64 B,.str name,.ro 1 (aAh shape),.str k,.int .i64 (nn:Nat),.ro 1 (aCm data)],.box 27 [.ro 1 (aAh s),.ro 1 (aAj a)],.box 27 [.nils,.nils],.box 149 ([.str kp,.str kq]),.box 149 (aGq (aEf (a.take i)))]⟩)\/(0<i/\st=⟨[(3,.bptr 0 0),(4,.bptr 1 0),(6,.bptr 2 0),(7,.own 5 0 (aB2 (r.take i)).length),(8,.bptr 3 0),(10,.bptr 4 0),(11,.int .i64 (i:Nat))],[.box 25 [.str aCn,.int .i64 A,.int .i64 B,.str name,.ro 1 (aAh shape),.str k,.int .i64 (nn:Nat),.ro 1 (aCm data)],.box 27 [.ro 1 (aAh s),.ro 1 (aAj a)],.box 27 [.nils,.nils],.box 149 ([.str kp,.str kq]),.box 149 (aGq (aEf (a.take i))),.row false 149 2 (aB2 (r.take i))]⟩)),rfl,
  ⟨a.length,0,by omega,rfl,.inl ⟨rfl,Eq.trans rfl (congrArg (λz:List AV=>(⟨[(3,.bptr 0 0),(4,.bptr 1 0),(6,.bptr 2 0),(7,.nils),(8,.bptr 3 0),(10,.bptr 4 0),(11,.int .i64 (0:Nat))],[.box 25 [.str aCn,.int .i64 A,.int .i64 B,.str name,.ro 1 (aAh shape),.str k,.int .i64 (nn:Nat),.ro 1 (aCm data)],.box 27 [.ro 1 (aAh s),.ro 1 (aAj a)],.box 27 [.nils,.nils],.box 149 ([.str kp,.str kq]),.box 149 (z)]⟩:St)) (show [.str ⟨#[48]⟩,.str ⟨#[49]⟩]=aGq (aEf (a.take 0)) by rw [List.take_zero,aEr,aGe]))⟩⟩,?_⟩
 rintro m _ ⟨i,hi,hm,hst⟩
 have hol:(aB2 (r.take i)).length=i:=by rw [aB6,List.length_take];omega
 rcases Nat.lt_or_ge i a.length with hil|hge
 · have h1:=ata i hil
   have hadd:=aEl (hs i (by omega)) (hra a[i] (List.getElem_mem hil))
   rw [<- aDt hil] at hadd
   have hop:=hc i hil
   unfold aC2 at h1 hadd hop
   rcases hst with ⟨h0,rfl⟩|⟨h0,rfl⟩
   · repeat' first|refine sY ⟨?_⟩|(refine sq ?_ ?_<;>refine λh=>⟨?_⟩<;>(first|contradiction|(exfalso;omega)|skip))|fail
     conv=>whnf
     refine ⟨Nat.le_of_ble_eq_true rfl,λh=>Nat.succ_ne_zero _ (congrArg List.length h),?_⟩
     repeat' first|refine sY ⟨?_⟩|(refine sq ?_ ?_<;>refine λh=>⟨?_⟩<;>(first|contradiction|(exfalso;omega)|skip))|fail
     refine ⟨[0,1,2,3,4,7],a.length - (i+1),rfl,by omega,i+1,by omega,rfl,.inr ⟨by omega,?_⟩⟩
     have hone:aB2 (r.take (i+1))=[aGq (r[i]'(by omega))]:=by subst h0;rw [aD5 (by omega)]
     exact Eq.trans rfl (congrArg (λz:List (List AV)=>(⟨[(3,.bptr 0 0),(4,.bptr 1 0),(6,.bptr 2 0),(7,.own 5 0 z.length),(8,.bptr 3 0),(10,.bptr 4 0),(11,.int .i64 (i+1:Nat))],[.box 25 [.str aCn,.int .i64 A,.int .i64 B,.str name,.ro 1 (aAh shape),.str k,.int .i64 (nn:Nat),.ro 1 (aCm data)],.box 27 [.ro 1 (aAh s),.ro 1 (aAj a)],.box 27 [.nils,.nils],.box 149 ([.str kp,.str kq]),.box 149 (aGq (aEf (a.take (i+1)))),.row false 149 2 z]⟩:St)) hone.symm)
   · repeat' first|refine sY ⟨?_⟩|(refine sq ?_ ?_<;>refine λh=>⟨?_⟩<;>(first|contradiction|(exfalso;omega)|skip))|fail
     refine ⟨Nat.le_refl _,(show ((aB2 (r.take i)).length+1)*32<=140737488355328 by omega),_,aDd (by omega),?_⟩
     repeat' first|refine sY ⟨?_⟩|(refine sq ?_ ?_<;>refine λh=>⟨?_⟩<;>(first|contradiction|(exfalso;omega)|skip))|fail
     all_goals exact ⟨[0,1,2,3,4,8],a.length - (i+1),rfl,by omega,i+1,by omega,rfl,.inr ⟨by omega,rfl⟩⟩
 · rcases hst with ⟨rfl,rfl⟩|⟨h0,rfl⟩
   · exact absurd hge (by omega)
   · have e:r.take i=r:=List.take_of_length_le (by omega)
     rw [e]
     repeat' first|refine sY ⟨?_⟩|(refine sq ?_ ?_<;>refine λh=>⟨?_⟩<;>(first|contradiction|(exfalso;omega)|skip))|fail
     refine ⟨[3,4,6,7,13],[0,1,2,5],λm st=>m=0/\st=⟨[(3,.bptr 0 0),(4,.bptr 1 0),(6,.bptr 2 0),(7,.own 3 0 (aB2 r).length),(13,.int .i64 0)],[.box 25 [.str aCn,.int .i64 A,.int .i64 B,.str name,.ro 1 (aAh shape),.str k,.int .i64 (nn:Nat),.ro 1 (aCm data)],.box 27 [.ro 1 (aAh s),.ro 1 (aAj a)],.box 27 [.nils,.nils],.row false 149 2 (aB2 r)]⟩,rfl,⟨0,rfl,rfl⟩,?_⟩
     rintro m2 _ ⟨rfl,rfl⟩
     cases X with
     |nil=>simp at hXl;omega
     |cons c0 cs0=>
      cases shape
      all_goals (repeat' first|refine sY ⟨?_⟩|(refine sq ?_ ?_<;>refine λh=>⟨?_⟩<;>(first|contradiction|(exfalso;omega)|skip))|fail)
      all_goals (conv=>whnf)
      all_goals rfl
set_option maxHeartbeats 4000000 in
theorem bC9 (hk:k.size<190000){s:List Int}{a:List Rat}(ha:VT s a) (hs:∀k,k<=a.length->RS (aEf (a.take k))) (sb:List Int) (lb:List ByteArray):
 aAc Tryz.prog GL 59 [aBn bPc A B name shape k n data,aAs s a,aEv sb lb] (λy=>y=aAs shape [aEf a]):=by
 have hof:=aEm shape [aEf a] (λx hx=>by rw [List.mem_singleton.1 hx];have:=hs a.length (Nat.le_refl _);rwa [List.take_length] at this) (by simp)
 have hv:=ha.vl
 have hal:=aAg a
 have hra:=ha.rs
 have ata:=λi (hi:i<a.length)=>aCa s (i:=i) hi ha.rs
 have hkr:=aEx GL k hk
 unfold aBn aEv
 unfold aAs at ata ⊢
 refine aAa aAy HM Tryz.func59 rfl (by decide +kernel) (by decide +kernel) rfl ?_
 repeat' first|refine sY ⟨?_⟩|(refine sq ?_ ?_<;>refine λh=>⟨?_⟩<;>(first|contradiction|(exfalso;omega)|skip))|fail
 conv=>whnf
 rintro _ ⟨kp,kq,rfl,_⟩
 repeat' first|refine sY ⟨?_⟩|(refine sq ?_ ?_<;>refine λh=>⟨?_⟩<;>(first|contradiction|(exfalso;omega)|skip))|fail
 refine ⟨[3,4,6,7,8,10,11],[0,1,3,4,5],λm st=>∃i:Nat,i<=a.length/\m=a.length - i/\st=⟨[(3,.bptr 0 0),(4,.bptr 1 0),(6,.bptr 2 0),(7,.nils),(8,.bptr 3 0),(10,.bptr 4 0),(11,.int .i64 (i:Nat))],[.box 25 [.str bPc,.int .i64 A,.int .i64 B,.str name,.ro 1 (aAh shape),.str k,.int .i64 n,.ro 1 (aCm data)],.box 27 [.ro 1 (aAh s),.ro 1 (aAj a)],.box 27 [.nils,.nils],.box 149 ([.str kp,.str kq]),.box 149 (aGq (aEf (a.take i)))]⟩,rfl,
  ⟨a.length,0,by omega,rfl,Eq.trans rfl (congrArg (λz:List AV=>(⟨[(3,.bptr 0 0),(4,.bptr 1 0),(6,.bptr 2 0),(7,.nils),(8,.bptr 3 0),(10,.bptr 4 0),(11,.int .i64 (0:Nat))],[.box 25 [.str bPc,.int .i64 A,.int .i64 B,.str name,.ro 1 (aAh shape),.str k,.int .i64 n,.ro 1 (aCm data)],.box 27 [.ro 1 (aAh s),.ro 1 (aAj a)],.box 27 [.nils,.nils],.box 149 ([.str kp,.str kq]),.box 149 (z)]⟩:St)) (show [.str ⟨#[48]⟩,.str ⟨#[49]⟩]=aGq (aEf (a.take 0)) by rw [List.take_zero,aEr,aGe]))⟩,?_⟩
 rintro m _ ⟨i,hi,hm,rfl⟩
 rcases Nat.lt_or_ge i a.length with hil|hge
 · have h1:=ata i hil
   have hadd:=aEl (hs i (by omega)) (hra a[i] (List.getElem_mem hil))
   rw [<- aDt hil] at hadd
   unfold aC2 at h1 hadd
   repeat' first|refine sY ⟨?_⟩|(refine sq ?_ ?_<;>refine λh=>⟨?_⟩<;>(first|contradiction|(exfalso;omega)|skip))|fail
   all_goals exact ⟨[0,1,2,3,4],a.length - (i+1),rfl,by omega,i+1,by omega,rfl,rfl⟩
 · have e:a.take i=a:=List.take_of_length_le (by omega)
   rw [e]
   repeat' first|refine sY ⟨?_⟩|(refine sq ?_ ?_<;>refine λh=>⟨?_⟩<;>(first|contradiction|(exfalso;omega)|skip))|fail
   refine ⟨[3,4,6,7,10,13],[0,1,2,4],λm st=>m=0/\st=⟨[(3,.bptr 0 0),(4,.bptr 1 0),(6,.bptr 2 0),(7,.nils),(10,.bptr 3 0),(13,.int .i64 0)],[.box 25 [.str bPc,.int .i64 A,.int .i64 B,.str name,.ro 1 (aAh shape),.str k,.int .i64 n,.ro 1 (aCm data)],.box 27 [.ro 1 (aAh s),.ro 1 (aAj a)],.box 27 [.nils,.nils],.box 149 (aGq (aEf a))]⟩,rfl,⟨0,rfl,rfl⟩,?_⟩
   rintro m2 _ ⟨rfl,rfl⟩
   repeat' first|refine sY ⟨?_⟩|(refine sq ?_ ?_<;>refine λh=>⟨?_⟩<;>(first|contradiction|(exfalso;omega)|skip))|fail
   conv=>whnf
   refine ⟨Nat.le_of_ble_eq_true rfl,λh=>Nat.succ_ne_zero _ (congrArg List.length h),?_⟩
   cases shape
   all_goals (repeat' first|refine sY ⟨?_⟩|(refine sq ?_ ?_<;>refine λh=>⟨?_⟩<;>(first|contradiction|(exfalso;omega)|skip))|fail)
   all_goals (conv=>whnf)
   all_goals rfl
set_option maxHeartbeats 4000000 in
theorem aSu (hk:k.size<190000){x:Rat}(hx:RS x) (N:Nat) (hN:1<=N/\N<=64) (hok:aAl shape=true) (hp:aA8 shape=(N:Nat)) (sb:List Int) (lb:List ByteArray):
 aAc Tryz.prog GL 59 [aBn aGi A B name shape k n data,aAs [] [x],aEv sb lb] (λy=>y=aAs shape (List.replicate N x)):=by
 obtain ⟨s,hs0⟩:∃s:List Int,s=[]:=⟨_,rfl⟩
 obtain ⟨a,ha0⟩:∃a:List Rat,a=[x]:=⟨_,rfl⟩
 rw [<- hs0,<-ha0]
 have ha:VT s a:=⟨by rw [hs0];decide,by rw [hs0,ha0];simp [aA8],λy hy=>by rw [ha0] at hy;rw [List.mem_singleton.1 hy];exact hx⟩
 have hal1:a.length=1:=by rw [ha0];rfl
 have hs:∀k,k<=a.length->RS (aEf (a.take k)):=λk hk=>by
  rw [ha0]
  rcases k with _|_|k
  · exact aO6
  · show RS (0+x);rw [Rat.zero_add];exact hx
  · rw [ha0] at hk;simp at hk
 obtain ⟨r,hrd⟩:∃r,r=List.replicate N x:=⟨_,rfl⟩
 rw [<- hrd]
 have hrl:r.length=N:=by rw [hrd,List.length_replicate]
 have hrg:∀i (hi:i<N),r[i]'(by omega)=a[0]'(by omega):=λi hi=>by subst hrd ha0;simp
 have hof:=aEm shape r (λy hy=>by rw [hrd] at hy;rw [List.eq_of_mem_replicate hy];exact hx) (by omega)
 rw [aE4 (r:=r) (n:=(aB2 r).length) rfl] at hof
 obtain ⟨X,hX⟩:∃X,X=aAj r:=⟨_,rfl⟩
 have hXl:X.length=N:=by rw [hX,aAg];omega
 have e0:aAs shape r= .agg [.ro 1 (aAh shape),.ro 1 X]:=by rw [aAs,hX]
 rw [e0] at hof ⊢
 clear hrd hX e0
 have hsz:=aHm GL shape hok
 rw [hp] at hsz
 have hv:=ha.vl
 have hal:=aAg a
 have hra:=ha.rs
 have ata:=λi (hi:i<a.length)=>aCa s (i:=i) hi ha.rs
 have hkr:=aEx GL k hk
 unfold aBn aEv
 unfold aAs at ata ⊢
 refine aAa aAy HM Tryz.func59 rfl (by decide +kernel) (by decide +kernel) rfl ?_
 repeat' first|refine sY ⟨?_⟩|(refine sq ?_ ?_<;>refine λh=>⟨?_⟩<;>(first|contradiction|(exfalso;omega)|skip))|fail
 conv=>whnf
 rintro _ ⟨kp,kq,rfl,_⟩
 repeat' first|refine sY ⟨?_⟩|(refine sq ?_ ?_<;>refine λh=>⟨?_⟩<;>(first|contradiction|(exfalso;omega)|skip))|fail
 refine ⟨[3,4,6,7,8,10,11],[0,1,3,4,5],λm st=>∃i:Nat,i<=a.length/\m=a.length - i/\st=⟨[(3,.bptr 0 0),(4,.bptr 1 0),(6,.bptr 2 0),(7,.nils),(8,.bptr 3 0),(10,.bptr 4 0),(11,.int .i64 (i:Nat))],[.box 25 [.str aGi,.int .i64 A,.int .i64 B,.str name,.ro 1 (aAh shape),.str k,.int .i64 n,.ro 1 (aCm data)],.box 27 [.ro 1 (aAh s),.ro 1 (aAj a)],.box 27 [.nils,.nils],.box 149 ([.str kp,.str kq]),.box 149 (aGq (aEf (a.take i)))]⟩,rfl,
  ⟨a.length,0,by omega,rfl,Eq.trans rfl (congrArg (λz:List AV=>(⟨[(3,.bptr 0 0),(4,.bptr 1 0),(6,.bptr 2 0),(7,.nils),(8,.bptr 3 0),(10,.bptr 4 0),(11,.int .i64 (0:Nat))],[.box 25 [.str aGi,.int .i64 A,.int .i64 B,.str name,.ro 1 (aAh shape),.str k,.int .i64 n,.ro 1 (aCm data)],.box 27 [.ro 1 (aAh s),.ro 1 (aAj a)],.box 27 [.nils,.nils],.box 149 ([.str kp,.str kq]),.box 149 (z)]⟩:St)) (show [.str ⟨#[48]⟩,.str ⟨#[49]⟩]=aGq (aEf (a.take 0)) by rw [List.take_zero,aEr,aGe]))⟩,?_⟩
 rintro m _ ⟨i,hi,hm,rfl⟩
 rcases Nat.lt_or_ge i a.length with hil|hge
 · have h1:=ata i hil
   have hadd:=aEl (hs i (by omega)) (hra a[i] (List.getElem_mem hil))
   rw [<- aDt hil] at hadd
   unfold aC2 at h1 hadd
   repeat' first|refine sY ⟨?_⟩|(refine sq ?_ ?_<;>refine λh=>⟨?_⟩<;>(first|contradiction|(exfalso;omega)|skip))|fail
   all_goals exact ⟨[0,1,2,3,4],a.length - (i+1),rfl,by omega,i+1,by omega,rfl,rfl⟩
 · repeat' first|refine sY ⟨?_⟩|(refine sq ?_ ?_<;>refine λh=>⟨?_⟩<;>(first|contradiction|(exfalso;omega)|skip))|fail
   refine ⟨[3,4,6,7,13],[0,1,2],λm st=>∃j:Nat,j<=N/\m=N - j/\((j=0/\st=⟨[(3,.bptr 0 0),(4,.bptr 1 0),(6,.bptr 2 0),(7,.nils),(13,.int .i64 (j:Nat))],[.box 25 [.str aGi,.int .i64 A,.int .i64 B,.str name,.ro 1 (aAh shape),.str k,.int .i64 n,.ro 1 (aCm data)],.box 27 [.ro 1 (aAh s),.ro 1 (aAj a)],.box 27 [.nils,.nils]]⟩)\/(0<j/\st=⟨[(3,.bptr 0 0),(4,.bptr 1 0),(6,.bptr 2 0),(7,.own 3 0 (aB2 (r.take j)).length),(13,.int .i64 (j:Nat))],[.box 25 [.str aGi,.int .i64 A,.int .i64 B,.str name,.ro 1 (aAh shape),.str k,.int .i64 n,.ro 1 (aCm data)],.box 27 [.ro 1 (aAh s),.ro 1 (aAj a)],.box 27 [.nils,.nils],.row false 149 2 (aB2 (r.take j))]⟩)),rfl,⟨N,0,by omega,rfl,.inl ⟨rfl,rfl⟩⟩,?_⟩
   rintro m2 _ ⟨j,hj,hm2,hst⟩
   have hol:(aB2 (r.take j)).length=j:=by rw [aB6,List.length_take];omega
   have h1:=ata 0 (by omega)
   rw [show ((0:Nat):Int)=0 from rfl] at h1
   rcases Nat.lt_or_ge j N with hjl|hjge
   · rw [<- hrg j hjl] at h1
     unfold aC2 at h1
     rcases hst with ⟨h0,rfl⟩|⟨h0,rfl⟩
     · repeat' first|refine sY ⟨?_⟩|(refine sq ?_ ?_<;>refine λh=>⟨?_⟩<;>(first|contradiction|(exfalso;omega)|skip))|fail
       conv=>whnf
       refine ⟨Nat.le_of_ble_eq_true rfl,λh=>Nat.succ_ne_zero _ (congrArg List.length h),?_⟩
       repeat' first|refine sY ⟨?_⟩|(refine sq ?_ ?_<;>refine λh=>⟨?_⟩<;>(first|contradiction|(exfalso;omega)|skip))|fail
       refine ⟨[0,1,2,4],N - (j+1),rfl,by omega,j+1,by omega,rfl,.inr ⟨by omega,?_⟩⟩
       have hone:aB2 (r.take (j+1))=[aGq (r[j]'(by omega))]:=by subst h0;rw [aD5 (by omega)]
       exact Eq.trans rfl (congrArg (λz:List (List AV)=>(⟨[(3,.bptr 0 0),(4,.bptr 1 0),(6,.bptr 2 0),(7,.own 3 0 z.length),(13,.int .i64 (j+1:Nat))],[.box 25 [.str aGi,.int .i64 A,.int .i64 B,.str name,.ro 1 (aAh shape),.str k,.int .i64 n,.ro 1 (aCm data)],.box 27 [.ro 1 (aAh s),.ro 1 (aAj a)],.box 27 [.nils,.nils],.row false 149 2 z]⟩:St)) hone.symm)
     · repeat' first|refine sY ⟨?_⟩|(refine sq ?_ ?_<;>refine λh=>⟨?_⟩<;>(first|contradiction|(exfalso;omega)|skip))|fail
       refine ⟨Nat.le_refl _,(show ((aB2 (r.take j)).length+1)*32<=140737488355328 by omega),_,aDd (by omega),?_⟩
       repeat' first|refine sY ⟨?_⟩|(refine sq ?_ ?_<;>refine λh=>⟨?_⟩<;>(first|contradiction|(exfalso;omega)|skip))|fail
       all_goals exact ⟨[0,1,2,5],N - (j+1),rfl,by omega,j+1,by omega,rfl,.inr ⟨by omega,rfl⟩⟩
   · rcases hst with ⟨h0,rfl⟩|⟨h0,rfl⟩
     · exact absurd hjge (by omega)
     · have e:r.take j=r:=List.take_of_length_le (by omega)
       rw [e]
       cases X with
       |nil=>simp at hXl;omega
       |cons c0 cs0=>
        cases shape
        all_goals (repeat' first|refine sY ⟨?_⟩|(refine sq ?_ ?_<;>refine λh=>⟨?_⟩<;>(first|contradiction|(exfalso;omega)|skip))|fail)
        all_goals (conv=>whnf)
        all_goals rfl
end
end Go.V
namespace Go.V
open Go.N Go.Proofs
set_option maxRecDepth 20000
def bQq:Tab:=[(25,i25),(27,i27),(9,i9),(22,i22),(3,i3),(23,i23),(4,i4)]
theorem aBj:TOK Tryz.prog bQq:=⟨K25,⟨K27,⟨K9,⟨K22,⟨K3,⟨K23,⟨K4,trivial⟩⟩⟩⟩⟩⟩⟩
def bU7:Tab:=[(25,i25),(27,i27),(34,i34),(22,i22),(3,i3),(4,i4)]
theorem bKb:TOK Tryz.prog bU7:=⟨K25,⟨K27,⟨K34,⟨K22,⟨K3,⟨K4,trivial⟩⟩⟩⟩⟩⟩
inductive FitV:Opc->List Int->ByteArray->Int->List ByteArray->List Int->List Rat->List Int->List Rat->List Rat->Prop
 |const {s k n sa a sb b v} (h:VT s v):FitV .const s k n (v.map aAw) sa a sb b v
 |add {s k n d a b} (ha:VT s a) (hb:VT s b) (hr:∀x∈List.zipWith (λx y=>x+y) a b,RS x):FitV .add s k n d s a s b (List.zipWith (λx y=>x+y) a b)
 |sub {s k n d a b} (ha:VT s a) (hb:VT s b) (hr:∀x∈List.zipWith (λx y=>x - y) a b,RS x):FitV .sub s k n d s a s b (List.zipWith (λx y=>x - y) a b)
 |mul {s k n d a b} (ha:VT s a) (hb:VT s b) (hr:∀x∈List.zipWith (λx y=>x*y) a b,RS x):FitV .mul s k n d s a s b (List.zipWith (λx y=>x*y) a b)
 |max {s k n d a b} (ha:VT s a) (hb:VT s b) (hd:∀i (h:i<a.length),RS (a[i] - b[i]'(by have:=ha.len;have:=hb.len;omega))) (hr:∀x∈List.zipWith bDz a b,RS x):FitV .max s k n d s a s b (List.zipWith bDz a b)
 |above {s k n d a b} (ha:VT s a) (hb:VT s b) (hd:∀i (h:i<a.length),RS (a[i] - b[i]'(by have:=ha.len;have:=hb.len;omega))) (hr:∀x∈List.zipWith aF3 a b,RS x):FitV .above s k n d s a s b (List.zipWith aF3 a b)
 |matmul {k n d} {p q c:Nat} {a b} (ha:VT [(p:Int),(q:Int)] a) (hb:VT [(q:Int),(c:Int)] b) (hok:aAl [(p:Int),(c:Int)]=true)
   (hm:∀i k j,i<p->k<c->j<q->RS (atR a (i*q+j)*atR b (j*c+k))) (hs:∀i k j,i<p->k<c->j<=q->RS (aEf ((aCv q c a b i k).take j))):
   FitV .matmul [(p:Int),(c:Int)] k n d [(p:Int),(q:Int)] a [(q:Int),(c:Int)] b (bIu p q c a b)
 |relu {s k n d a sb b} (ha:VT s a):FitV .relu s k n d s a sb b (a.map aIh)
 |abs {s k n d a sb b} (ha:VT s a):FitV .abs s k n d s a sb b (a.map aVh)
 |step {s k n d a sb b} (ha:VT s a):FitV .step s k n d s a sb b (a.map aIl)
 |sign {s k n d a sb b} (ha:VT s a):FitV .sign s k n d s a sb b (a.map aIi)
 |scale {s n d a sb b} {kk:Rat} (ha:VT s a) (hk:RS kk) (hr:∀x∈a,RS (x*kk)) (hs:∀k,k<=a.length->RS (aEf (a.take k))):FitV .scale s (aAw kk) n d s a sb b (a.map λx=>x*kk)
 |power {s k d a sb b} {nn:Nat} (hk:k.size<190000) (ha:VT s a) (hn:nn<=6) (hp:∀x∈a,∀j,j<=nn->RS (x ^ j)) (hs:∀k,k<=a.length->RS (aEf (a.take k))):FitV .power s k (nn:Nat) d s a sb b (a.map λx=>x ^ nn)
 |transpose {k n d sb b} {p q:Nat} {a} (ha:VT [(p:Int),(q:Int)] a):FitV .transpose [(q:Int),(p:Int)] k n d [(p:Int),(q:Int)] a sb b (aG7 p q a)
 |sum {k n d sa a sb b} (hk:k.size<190000) (ha:VT sa a) (hs:∀k,k<=a.length->RS (aEf (a.take k))):FitV .sum [] k n d sa a sb b [aEf a]
 |reshape {s k n d sa a sb b} (ha:VT sa a) (hok:aAl s=true) (hl:(a.length:Int)=aA8 s):FitV .reshape s k n d sa a sb b a
 |spread {s k n d sb b} {x:Rat} {m:Nat} (hk:k.size<190000) (hx:RS x) (hok:aAl s=true) (hm:aA8 s=((m+1:Nat):Int)):FitV .spread s k n d [] [x] sb b (List.replicate (m+1) x)
theorem bJt {p:Prop}[Decidable p] {x y:Rat}(hx:RS x) (hy:RS y):RS (if p then x else y):=by split<;>assumption
theorem bPn {x:Rat}(h:RS x):RS (aIh x):=bJt h aO6
theorem bUn {x:Rat}(h:RS x):RS (aVh x):=bJt h h.neg
theorem bPp {x:Rat}(h:RS x):RS (aIl x):=bJt aO5 aO6
theorem bPo {x:Rat}(h:RS x):RS (aIi x):=bJt aO5.neg (bJt aO6 aO5)
theorem cA4 (s:List Int) (v:List Rat):aAs s v=aEv s (v.map aAw):=rfl
section
variable (A B:Int) (name:ByteArray)
theorem bEz {o:Opc}{s:List Int}{k:ByteArray}{n:Int}{d:List ByteArray}{sa:List Int}{a:List Rat}{sb:List Int}{b r:List Rat}(h:FitV o s k n d sa a sb b r):
 aAc Tryz.prog GL 59 [aBn o.str A B name s k n d,aAs sa a,aAs sb b] (λy=>y=aAs s r):=by
 cases h with
 |const h=>exact aVq A B name s k n _ sa sb _ _
 |add ha hb hr=>exact bC5 A B name s k n d ha hb hr
 |sub ha hb hr=>exact bC8 A B name s k n d ha hb hr
 |mul ha hb hr=>exact bC7 A B name s k n d ha hb hr
 |max ha hb hd hr=>exact bC6 A B name s k n d ha hb hd hr
 |above ha hb hd hr=>exact aVp A B name s k n d ha hb hd hr
 |matmul ha hb hok hm hs=>exact aSt A B name _ k n d _ _ _ ha hb hok hm hs
 |relu ha=>exact aY7 A B name s k n d ha (λx=>bPn) sb _
 |abs ha=>exact bC4 A B name s k n d ha (λx=>bUn) sb _
 |step ha=>exact aY9 A B name s k n d ha (λx=>bPp) sb _
 |sign ha=>exact aY8 A B name s k n d ha (λx=>bPo) sb _
 |scale ha hk hr hs=>exact aVs A B name s n d ha hk hr hs sb _
 |power hk ha hn hp hs=>exact aVr A B name s k d hk ha _ hn hp hs sb _
 |transpose ha=>exact aM3 A B name _ k n d _ _ ha sb _
 |sum hk ha hs=>exact bC9 A B name [] k n d hk ha hs sb _
 |reshape ha hok hl=>exact aPu A B name s k n d sa sb _ _
 |spread hk hx hok hm=>
  have hmid:=aD8 hok s.length
  rw [List.take_length,hm] at hmid
  exact aSu A B name s k n d hk hx _ (by omega) hok hm sb _
set_option maxHeartbeats 8000000 in
theorem bRo {o:Opc}{s:List Int}{k:ByteArray}{n:Int}{d:List ByteArray}{sa:List Int}{a:List Rat}{sb:List Int}{b r:List Rat}(h:FitV o s k n d sa a sb b r):
 aAc Tryz.prog GL 40 [aBn o.str A B name s k n d,aAs sa a,aAs sb b] (λy=>y= .tup [aAs s r,.int .i64 0]):=by
 cases h with
 |const h=>
  have h1:=aGu GL s (by have:=h.sl;omega)
  have h2:=bEw r (by have:=h.vl;omega)
  have h3:=aBp h
  rw [cA4] at h3
  unfold aAj at h2
  unfold aBn aAs aAj
  unfold aEv at h3
  refine aAa aBj HM Tryz.func40 rfl (by decide +kernel) (by decide +kernel) rfl ?_
  repeat' first|refine sY ⟨?_⟩|(refine sq ?_ ?_<;>refine λh=>⟨?_⟩<;>(first|contradiction|(exfalso;omega)|skip))|fail
  refine ⟨by decide +kernel,[0,1,3,0,8,31,63,0,255],by decide +kernel,?_⟩
  repeat' first|refine sY ⟨?_⟩|(refine sq ?_ ?_<;>refine λh=>⟨?_⟩<;>(first|contradiction|(exfalso;omega)|skip))|fail
  all_goals (conv=>whnf)
  all_goals rfl
 |add ha hb hr=>
  have h:=bMl ha hb
  unfold aBn
  unfold aAs at h ⊢
  refine aAa aBj HM Tryz.func40 rfl (by decide +kernel) (by decide +kernel) rfl ?_
  repeat' first|refine sY ⟨?_⟩|(refine sq ?_ ?_<;>refine λh=>⟨?_⟩<;>(first|contradiction|(exfalso;omega)|skip))|fail
  all_goals (conv=>whnf)
  all_goals rfl
 |sub ha hb hr=>
  have h:=aZk ha hb
  unfold aBn
  unfold aAs at h ⊢
  refine aAa aBj HM Tryz.func40 rfl (by decide +kernel) (by decide +kernel) rfl ?_
  repeat' first|refine sY ⟨?_⟩|(refine sq ?_ ?_<;>refine λh=>⟨?_⟩<;>(first|contradiction|(exfalso;omega)|skip))|fail
  all_goals (conv=>whnf)
  all_goals rfl
 |mul ha hb hr=>
  have h:=bMm ha hb
  unfold aBn
  unfold aAs at h ⊢
  refine aAa aBj HM Tryz.func40 rfl (by decide +kernel) (by decide +kernel) rfl ?_
  repeat' first|refine sY ⟨?_⟩|(refine sq ?_ ?_<;>refine λh=>⟨?_⟩<;>(first|contradiction|(exfalso;omega)|skip))|fail
  all_goals (conv=>whnf)
  all_goals rfl
 |max ha hb hd hr=>
  have h:=bZn ha hb hd
  unfold aBn
  unfold aAs at h ⊢
  refine aAa aBj HM Tryz.func40 rfl (by decide +kernel) (by decide +kernel) rfl ?_
  repeat' first|refine sY ⟨?_⟩|(refine sq ?_ ?_<;>refine λh=>⟨?_⟩<;>(first|contradiction|(exfalso;omega)|skip))|fail
  all_goals (conv=>whnf)
  all_goals rfl
 |above ha hb hd hr=>
  have h:=bRs ha hb hd
  unfold aBn
  unfold aAs at h ⊢
  refine aAa aBj HM Tryz.func40 rfl (by decide +kernel) (by decide +kernel) rfl ?_
  repeat' first|refine sY ⟨?_⟩|(refine sq ?_ ?_<;>refine λh=>⟨?_⟩<;>(first|contradiction|(exfalso;omega)|skip))|fail
  all_goals (conv=>whnf)
  all_goals rfl
 |matmul ha hb hok hm hs=>
  have h:=bLx _ _ _ ha hb hok hm hs
  unfold aBn
  unfold aAs at h ⊢
  refine aAa aBj HM Tryz.func40 rfl (by decide +kernel) (by decide +kernel) rfl ?_
  repeat' first|refine sY ⟨?_⟩|(refine sq ?_ ?_<;>refine λh=>⟨?_⟩<;>(first|contradiction|(exfalso;omega)|skip))|fail
  all_goals (conv=>whnf)
  all_goals rfl
 |relu ha=>
  have h:=bV3 ha
  unfold aBn
  unfold aAs at h ⊢
  refine aAa aBj HM Tryz.func40 rfl (by decide +kernel) (by decide +kernel) rfl ?_
  repeat' first|refine sY ⟨?_⟩|(refine sq ?_ ?_<;>refine λh=>⟨?_⟩<;>(first|contradiction|(exfalso;omega)|skip))|fail
  all_goals (conv=>whnf)
  all_goals rfl
 |abs ha=>
  have h:=bZm ha
  unfold aBn
  unfold aAs at h ⊢
  refine aAa aBj HM Tryz.func40 rfl (by decide +kernel) (by decide +kernel) rfl ?_
  repeat' first|refine sY ⟨?_⟩|(refine sq ?_ ?_<;>refine λh=>⟨?_⟩<;>(first|contradiction|(exfalso;omega)|skip))|fail
  all_goals (conv=>whnf)
  all_goals rfl
 |step ha=>
  have h:=bV5 ha
  unfold aBn
  unfold aAs at h ⊢
  refine aAa aBj HM Tryz.func40 rfl (by decide +kernel) (by decide +kernel) rfl ?_
  repeat' first|refine sY ⟨?_⟩|(refine sq ?_ ?_<;>refine λh=>⟨?_⟩<;>(first|contradiction|(exfalso;omega)|skip))|fail
  all_goals (conv=>whnf)
  all_goals rfl
 |sign ha=>
  have h:=bV4 ha
  unfold aBn
  unfold aAs at h ⊢
  refine aAa aBj HM Tryz.func40 rfl (by decide +kernel) (by decide +kernel) rfl ?_
  repeat' first|refine sY ⟨?_⟩|(refine sq ?_ ?_<;>refine λh=>⟨?_⟩<;>(first|contradiction|(exfalso;omega)|skip))|fail
  all_goals (conv=>whnf)
  all_goals rfl
 |scale ha hk hr hs=>
  have h:=bRy ha hk
  unfold aBn
  unfold aAs at h ⊢
  refine aAa aBj HM Tryz.func40 rfl (by decide +kernel) (by decide +kernel) rfl ?_
  repeat' first|refine sY ⟨?_⟩|(refine sq ?_ ?_<;>refine λh=>⟨?_⟩<;>(first|contradiction|(exfalso;omega)|skip))|fail
  all_goals (conv=>whnf)
  all_goals rfl
 |power hk ha hn hp hs=>
  have h:=bRx _ hn ha hp
  unfold aBn
  unfold aAs at h ⊢
  refine aAa aBj HM Tryz.func40 rfl (by decide +kernel) (by decide +kernel) rfl ?_
  repeat' first|refine sY ⟨?_⟩|(refine sq ?_ ?_<;>refine λh=>⟨?_⟩<;>(first|contradiction|(exfalso;omega)|skip))|fail
  all_goals (conv=>whnf)
  all_goals rfl
 |transpose ha=>
  have h:=aZa _ _ ha
  unfold aBn
  unfold aAs at h ⊢
  refine aAa aBj HM Tryz.func40 rfl (by decide +kernel) (by decide +kernel) rfl ?_
  repeat' first|refine sY ⟨?_⟩|(refine sq ?_ ?_<;>refine λh=>⟨?_⟩<;>(first|contradiction|(exfalso;omega)|skip))|fail
  all_goals (conv=>whnf)
  all_goals rfl
 |sum hk ha hs=>
  have h:=bRl ha hs
  unfold aBn
  unfold aAs at h ⊢
  refine aAa aBj HM Tryz.func40 rfl (by decide +kernel) (by decide +kernel) rfl ?_
  repeat' first|refine sY ⟨?_⟩|(refine sq ?_ ?_<;>refine λh=>⟨?_⟩<;>(first|contradiction|(exfalso;omega)|skip))|fail
  all_goals (conv=>whnf)
  all_goals rfl
 |reshape ha hok hl=>
  have h:=bH3 ha hok hl
  unfold aBn
  unfold aAs at h ⊢
  refine aAa aBj HM Tryz.func40 rfl (by decide +kernel) (by decide +kernel) rfl ?_
  repeat' first|refine sY ⟨?_⟩|(refine sq ?_ ?_<;>refine λh=>⟨?_⟩<;>(first|contradiction|(exfalso;omega)|skip))|fail
  all_goals (conv=>whnf)
  all_goals rfl
 |spread hk hx hok hm=>
  have h:=bLy hok hx _ hm
  unfold aBn
  unfold aAs at h ⊢
  refine aAa aBj HM Tryz.func40 rfl (by decide +kernel) (by decide +kernel) rfl ?_
  repeat' first|refine sY ⟨?_⟩|(refine sq ?_ ?_<;>refine λh=>⟨?_⟩<;>(first|contradiction|(exfalso;omega)|skip))|fail
  all_goals (conv=>whnf)
  all_goals rfl
theorem FitV.shape {o:Opc}{s:List Int}{k:ByteArray}{n:Int}{d:List ByteArray}{sa:List Int}{a:List Rat}{sb:List Int}{b r:List Rat}(h:FitV o s k n d sa a sb b r):aAl s=true:=by
 cases h<;>first|assumption|exact VT.ok (by assumption)|decide|skip
 rename_i p q ha
 have h1:=ha.ok
 simp only [aAl,Bool.and_eq_true,decide_eq_true_eq,List.all_cons,List.all_nil,aA8,List.foldl_cons,List.foldl_nil,Int.one_mul,Bool.and_true] at h1 ⊢
 exact ⟨⟨h1.1.1,h1.1.2.2,h1.1.2.1⟩,by rw [Int.mul_comm];exact h1.2⟩
theorem bDc {o:Opc}{s:List Int}{k:ByteArray}{n:Int}{d:List ByteArray}{sa:List Int}{a:List Rat}{sb:List Int}{b r:List Rat}(h:FitV o s k n d sa a sb b r):
 aAc Tryz.prog GL 15 [aBn o.str A B name s k n d,aAs sa a,aAs sb b] (λy=>y= .tup [aAs s r,.int .i64 0]):=by
 have h1:=bRo A B name h
 have hl:=aBg h.shape
 have h2:=aC4 GL s s (by omega) (by omega)
 rw [decide_eq_true rfl] at h2
 unfold aBn aAs at h1 ⊢
 refine aAa bKb HM Tryz.func15 rfl (by decide +kernel) (by decide +kernel) rfl ?_
 repeat' first|refine sY ⟨?_⟩|(refine sq ?_ ?_<;>refine λh=>⟨?_⟩<;>(first|contradiction|(exfalso;omega)|skip))|fail
 all_goals (conv=>whnf)
 all_goals rfl
end
end Go.V
namespace Go.V
open Go.N Go.Proofs
set_option maxRecDepth 20000
theorem cA5:∀(e n:Nat),e<=n->10 ^ e<=10 ^ n:=λe n h=>Nat.pow_le_pow_right (by decide) h
theorem bYi {n:Nat}(h:n=45000):TOP=10 ^ n:=by subst h;unfold TOP;rfl
theorem bUq {e:Nat}(h:e<=45000):10 ^ e<=TOP:=by
 obtain ⟨n,hn⟩:∃n:Nat,n=45000:=⟨_,rfl⟩
 rw [bYi hn]
 exact cA5 e n (by omega)
theorem aG9 {x:Rat}{e:Nat}(h:MM x<=10 ^ e) (he:e<=45000):RS x:=⟨Nat.le_trans h (bUq he)⟩
theorem aG6 {a b:Nat}(h:a<=b):10 ^ a<=10 ^ b:=Nat.pow_le_pow_right (by decide) h
theorem aNo {e:Nat}(h:1<=e):2<=10 ^ e:=Nat.le_trans (by decide) (aG6 h)
theorem aJs {x y E F:Nat}(hx:x<=10 ^ E) (hy:y<=10 ^ F):x*y<=10 ^ (E+F):=by rw [Nat.pow_add];exact Nat.mul_le_mul hx hy
theorem bOv {l:List Rat}{E:Nat}(N:Nat) (h:∀y∈l,MM y<=10 ^ E) (hl:l.length*E<=N) (hN:1<=N) (hN2:N<=45000):∀k,k<=l.length->RS (aEf (l.take k)):=λk hk=>by
 refine aG9 (e:=N) (aMr (C:=10 ^ N) h ?_ (aNo hN) k hk) hN2
 rw [<- Nat.pow_mul,Nat.mul_comm]
 exact aG6 hl
theorem bPi (x:Rat):MM (aIh x)<=MM x:=by
 unfold aIh;split
 · exact Nat.le_refl _
 · rw [aO4];exact bJw x
theorem bUk (x:Rat):MM (aVh x)<=MM x:=by
 unfold aVh;split
 · exact Nat.le_refl _
 · rw [bJu];exact Nat.le_refl _
theorem bPl (x:Rat):MM (aIl x)=2:=by unfold aIl;split<;>rfl
theorem bPj (x:Rat):MM (aIi x)=2:=by
 unfold aIi;split
 · rw [bJu,bJv]
 · split<;>rfl
theorem bJq (x y:Rat):MM (aF3 x y)=2:=by unfold aF3;split<;>rfl
theorem bUl {x y:Rat}{E F:Nat}(hx:MM x<=10 ^ E) (hy:MM y<=10 ^ F):MM (bDz x y)<=10 ^ (E+F):=by
 unfold bDz;split
 · exact Nat.le_trans hx (aG6 (Nat.le_add_right _ _))
 · exact Nat.le_trans hy (aG6 (Nat.le_add_left _ _))
theorem bFu {f:Rat->Rat->Rat}:∀{a b:List Rat}{z:Rat},z∈List.zipWith f a b->∃x∈a,∃y∈b,z=f x y
 |[],_,z,h=>by simp at h
 |_::_,[],z,h=>by simp at h
 |x::a,y::b,z,h=>by
  rw [List.zipWith_cons_cons,List.mem_cons] at h
  rcases h with rfl|h
  · exact ⟨x,List.mem_cons_self,y,List.mem_cons_self,rfl⟩
  · obtain ⟨u,hu,v,hv,e⟩:=bFu h
    exact ⟨u,List.mem_cons_of_mem _ hu,v,List.mem_cons_of_mem _ hv,e⟩
theorem bJs {a:List Rat}{E:Nat}(h:∀x∈a,MM x<=10 ^ E) (hE:1<=E) (i:Nat):MM (atR a i)<=10 ^ E:=by
 unfold atR
 cases he:a[i]? with
 |none=>exact Nat.le_trans (Nat.le_of_eq aO4) (aNo hE)
 |some x=>exact h x (List.mem_of_getElem? he)
noncomputable def bPd (o:Opc) (s:List Int) (k:ByteArray) (n:Int) (d:List ByteArray) (sa:List Int) (a:List Rat) (sb:List Int) (b:List Rat):List Rat:=match o with
 | .param| .input=>[]
 | .const=>d.map aN1
 | .add=>List.zipWith (λx y=>x+y) a b
 | .sub=>List.zipWith (λx y=>x - y) a b
 | .mul=>List.zipWith (λx y=>x*y) a b
 | .max=>List.zipWith bDz a b
 | .above=>List.zipWith aF3 a b
 | .matmul=>bIu (sa[0]?.getD 0).toNat (sa[1]?.getD 0).toNat (sb[1]?.getD 0).toNat a b
 | .relu=>a.map aIh
 | .abs=>a.map aVh
 | .step=>a.map aIl
 | .sign=>a.map aIi
 | .scale=>a.map λx=>x*aN1 k
 | .power=>a.map λx=>x ^ n.toNat
 | .transpose=>aG7 (sa[0]?.getD 0).toNat (sa[1]?.getD 0).toNat a
 | .sum=>[aEf a]
 | .reshape=>a
 | .spread=>List.replicate (aA8 s).toNat (atR a 0)
def cBh (o:Opc) (n:Int) (sa:List Int) (m Ea Eb Ek Ed:Nat):Nat:=match o with
 | .add| .sub| .mul| .max=>Ea+Eb
 | .matmul=>(sa[1]?.getD 0).toNat*(Ea+Eb)
 | .sum=>m*Ea
 | .scale=>Ea+Ek
 | .power=>Ea*max 1 n.toNat
 | .above| .step| .sign| .param| .input=>1
 | .const=>Ed
 |_=>Ea
theorem aKg {r:List Int×Bool}{s:List Int}(h:okZ r=some s):r=(s,true)/\aAl s=true:=by
 unfold okZ at h
 split at h
 · rename_i h1
   obtain ⟨s',c⟩:=r
   simp only [Bool.and_eq_true] at h1
   cases h
   exact ⟨by rw [h1.1],h1.2⟩
 · cases h
theorem aIj {s:List Int}(h:aAl s=true):aDj s=aA8 s:=if_pos h
theorem aW6 {s:List Int}(h:aAl s=true):1<=aA8 s/\aA8 s<=64:=by
 have:=aD8 h s.length
 rwa [List.take_length] at this
theorem bF9 {d:List ByteArray}(h:∀s∈d,aBa s=true):(d.map aN1).map aAw=d:=by
 rw [List.map_map]
 conv=>rhs;rw [<- List.map_id d]
 exact List.map_congr_left λs hs=>aHv (h s hs)
structure FitIn (sa:List Int) (a:List Rat) (E:Nat):Prop where
 mm:∀x∈a,MM x<=10 ^ E
 one:1<=E
theorem bZ9 {o:Opc}{A B:Int}{name:ByteArray}{s:List Int}{k:ByteArray}{n:Int}{d:List ByteArray}{sa:List Int}{a:List Rat}{sb:List Int}{b:List Rat}{Ea Eb Ek Ed:Nat}
 (hnn:aA7 o.str=false) (hz:okZ (ofZ ⟨o.str,A,B,name,s,k,n,d⟩ sa sb)=some s)
 (ha:0<o.many->VT sa a) (hb:1<o.many->VT sb b) (hEa:FitIn sa a Ea) (hEb:FitIn sb b Eb) (hEk:1<=Ek) (hEd:1<=Ed) (hkM:aBa k=true->MM (aN1 k)<=10 ^ Ek) (hks:k.size<=1000)
 (hd:∀y∈d,aBa y=true->MM (aN1 y)<=10 ^ Ed) (hs:∀j,j<=a.length->RS (aEf (a.take j))) (hkE:Ek<=45000) (hab:Ea+Eb<=45000)
 (hR:cBh o n sa a.length Ea Eb Ek Ed<=45000):
 FitV o s k n d sa a sb b (bPd o s k n d sa a sb b)/\(∀ y∈bPd o s k n d sa a sb b,MM y<=10 ^ cBh o n sa a.length Ea Eb Ek Ed)/\(((bPd o s k n d sa a sb b).length:Nat):Int)=aA8 s:=by
 obtain ⟨hz,hok⟩:=aKg hz
 have hp:=aW6 hok
 have hzip:∀(f:Rat->Rat->Rat) (C:Nat),(∀ x y,MM x<=10 ^ Ea->MM y<=10 ^ Eb->MM (f x y)<=10 ^ C)->∀z∈List.zipWith f a b,MM z<=10 ^ C:=λf C h z hz=>by
  obtain ⟨x,hx,y,hy,rfl⟩:=bFu hz
  exact h x y (hEa.mm x hx) (hEb.mm y hy)
 have hmap:∀(f:Rat->Rat) (C:Nat),(∀ x,MM x<=10 ^ Ea->MM (f x)<=10 ^ C)->∀z∈a.map f,MM z<=10 ^ C:=λf C h z hz=>by
  obtain ⟨x,hx,rfl⟩:=List.mem_map.1 hz
  exact h x (hEa.mm x hx)
 have hzl:∀f:Rat->Rat->Rat,VT sa a->VT sa b->(((List.zipWith f a b).length:Nat):Int)=aA8 sa:=λf h1 h2=>by
  rw [List.length_zipWith]
  have:=h1.len;have:=h2.len
  omega
 have hdif:VT sa a->VT sa b->∀i (h:i<a.length) (h2:i<b.length),RS (a[i] - b[i]):=λh1 h2 i h h'=>
  aG9 (Nat.le_trans (bTn _ _) (aJs (hEa.mm _ (List.getElem_mem h)) (hEb.mm _ (List.getElem_mem h')))) hab
 have o1:=hEa.one
 have o2:=hEb.one
 cases o
 case param=>cases hnn
 case input=>cases hnn
 case const=>
  rw [show ofZ ⟨Opc.str .const,A,B,name,s,k,n,d⟩ sa sb=(s,decide ((d.length:Int)=aDj s) && !(d.any λd=> !aBa d)) from rfl] at hz
  have h1:=congrArg Prod.snd hz
  simp only [Bool.and_eq_true,decide_eq_true_eq,Bool.not_eq_true',List.any_eq_false,Bool.not_eq_false'] at h1
  have hr:∀y∈d,aBa y=true:=λy hy=>by have:=h1.2 y hy;simpa using this
  have hm:∀z∈d.map aN1,MM z<=10 ^ Ed:=λz hz=>by
   obtain ⟨y,hy,rfl⟩:=List.mem_map.1 hz
   exact hd y hy (hr y hy)
  have hl:(((d.map aN1).length:Nat):Int)=aA8 s:=by rw [List.length_map,<-aIj hok];exact h1.1
  have hv:VT s (d.map aN1):=⟨hok,hl,λz hz=>aG9 (hm z hz) hR⟩
  refine ⟨?_,hm,hl⟩
  have:=FitV.const (k:=k) (n:=n) (sa:=sa) (a:=a) (sb:=sb) (b:=b) hv
  rw [bF9 hr] at this
  exact this
 case add=>
  rw [show ofZ ⟨Opc.str .add,A,B,name,s,k,n,d⟩ sa sb=(sa,decide (sa=sb)) from rfl] at hz
  obtain ⟨rfl,h2⟩:=Prod.mk.inj hz
  obtain rfl:=of_decide_eq_true h2
  have ha:=ha (by decide);have hb:=hb (by decide)
  have hm:=hzip (λx y=>x+y) (Ea+Eb) λx y h1 h2=>Nat.le_trans (bJr _ _) (aJs h1 h2)
  exact ⟨.add ha hb λx hx=>aG9 (hm x hx) hR,hm,hzl _ ha hb⟩
 case sub=>
  rw [show ofZ ⟨Opc.str .sub,A,B,name,s,k,n,d⟩ sa sb=(sa,decide (sa=sb)) from rfl] at hz
  obtain ⟨rfl,h2⟩:=Prod.mk.inj hz
  obtain rfl:=of_decide_eq_true h2
  have ha:=ha (by decide);have hb:=hb (by decide)
  have hm:=hzip (λx y=>x - y) (Ea+Eb) λx y h1 h2=>Nat.le_trans (bTn _ _) (aJs h1 h2)
  exact ⟨.sub ha hb λx hx=>aG9 (hm x hx) hR,hm,hzl _ ha hb⟩
 case mul=>
  rw [show ofZ ⟨Opc.str .mul,A,B,name,s,k,n,d⟩ sa sb=(sa,decide (sa=sb)) from rfl] at hz
  obtain ⟨rfl,h2⟩:=Prod.mk.inj hz
  obtain rfl:=of_decide_eq_true h2
  have ha:=ha (by decide);have hb:=hb (by decide)
  have hm:=hzip (λx y=>x*y) (Ea+Eb) λx y h1 h2=>Nat.le_trans (aXy _ _) (aJs h1 h2)
  exact ⟨.mul ha hb λx hx=>aG9 (hm x hx) hR,hm,hzl _ ha hb⟩
 case max=>
  rw [show ofZ ⟨Opc.str .max,A,B,name,s,k,n,d⟩ sa sb=(sa,decide (sa=sb)) from rfl] at hz
  obtain ⟨rfl,h2⟩:=Prod.mk.inj hz
  obtain rfl:=of_decide_eq_true h2
  have ha:=ha (by decide);have hb:=hb (by decide)
  have hm:=hzip bDz (Ea+Eb) λx y h1 h2=>bUl h1 h2
  exact ⟨.max ha hb (λi h=>hdif ha hb i h _) λx hx=>aG9 (hm x hx) hR,hm,hzl _ ha hb⟩
 case above=>
  rw [show ofZ ⟨Opc.str .above,A,B,name,s,k,n,d⟩ sa sb=(sa,decide (sa=sb)) from rfl] at hz
  obtain ⟨rfl,h2⟩:=Prod.mk.inj hz
  obtain rfl:=of_decide_eq_true h2
  have ha:=ha (by decide);have hb:=hb (by decide)
  have hm:=hzip aF3 1 λx y h1 h2=>Nat.le_trans (Nat.le_of_eq (bJq x y)) (by decide)
  exact ⟨.above ha hb (λi h=>hdif ha hb i h _) λx hx=>aG9 (hm x hx) hR,hm,hzl _ ha hb⟩
 case relu=>
  rw [show ofZ ⟨Opc.str .relu,A,B,name,s,k,n,d⟩ sa sb=(sa,true) from rfl] at hz
  obtain ⟨rfl,_⟩:=Prod.mk.inj hz
  have ha:=ha (by decide)
  exact ⟨.relu ha,hmap aIh Ea λx h=>Nat.le_trans (bPi x) h,by rw [<- ha.len];exact congrArg _ (List.length_map _)⟩
 case abs=>
  rw [show ofZ ⟨Opc.str .abs,A,B,name,s,k,n,d⟩ sa sb=(sa,true) from rfl] at hz
  obtain ⟨rfl,_⟩:=Prod.mk.inj hz
  have ha:=ha (by decide)
  exact ⟨.abs ha,hmap aVh Ea λx h=>Nat.le_trans (bUk x) h,by rw [<- ha.len];exact congrArg _ (List.length_map _)⟩
 case step=>
  rw [show ofZ ⟨Opc.str .step,A,B,name,s,k,n,d⟩ sa sb=(sa,true) from rfl] at hz
  obtain ⟨rfl,_⟩:=Prod.mk.inj hz
  have ha:=ha (by decide)
  exact ⟨.step ha,hmap aIl 1 λx h=>Nat.le_trans (Nat.le_of_eq (bPl x)) (by decide),by rw [<- ha.len];exact congrArg _ (List.length_map _)⟩
 case sign=>
  rw [show ofZ ⟨Opc.str .sign,A,B,name,s,k,n,d⟩ sa sb=(sa,true) from rfl] at hz
  obtain ⟨rfl,_⟩:=Prod.mk.inj hz
  have ha:=ha (by decide)
  exact ⟨.sign ha,hmap aIi 1 λx h=>Nat.le_trans (Nat.le_of_eq (bPj x)) (by decide),by rw [<- ha.len];exact congrArg _ (List.length_map _)⟩
 case scale=>
  rw [show ofZ ⟨Opc.str .scale,A,B,name,s,k,n,d⟩ sa sb=(sa,aBa k) from rfl] at hz
  obtain ⟨rfl,hk⟩:=Prod.mk.inj hz
  have ha:=ha (by decide)
  have hkM:=hkM hk
  have hm:=hmap (λx=>x*aN1 k) (Ea+Ek) λx h=>Nat.le_trans (aXy _ _) (aJs h hkM)
  refine ⟨?_,hm,by rw [<- ha.len];exact congrArg _ (List.length_map _)⟩
  have:=FitV.scale (n:=n) (d:=d) (sb:=sb) (b:=b) ha (aG9 hkM hkE) (λx hx=>aG9 (hm _ (List.mem_map.2 ⟨x,hx,rfl⟩)) hR) hs
  rw [aHv hk] at this
  exact this
 case power=>
  rw [show ofZ ⟨Opc.str .power,A,B,name,s,k,n,d⟩ sa sb=(sa,decide (0<=n) && decide (n<=6)) from rfl] at hz
  obtain ⟨rfl,hn⟩:=Prod.mk.inj hz
  simp only [Bool.and_eq_true,decide_eq_true_eq] at hn
  obtain ⟨nn,rfl⟩:∃m:Nat,n=m:=⟨n.toNat,by omega⟩
  have ha:=ha (by decide)
  have hpw:∀x,MM x<=10 ^ Ea->∀j,j<=nn->MM (x ^ j)<=10 ^ (Ea*max 1 nn):=λx h j hj=>
   bGs (n:=max 1 nn) h (by rw [<- Nat.pow_mul];exact Nat.le_refl _) (aNo (Nat.le_trans o1 (Nat.le_mul_of_pos_right _ (by omega)))) j (by omega)
  have hm:=hmap (λx=>x ^ nn) (Ea*max 1 nn) λx h=>hpw x h nn (Nat.le_refl _)
  exact ⟨.power (by omega) ha (by omega) (λx hx j hj=>aG9 (hpw x (hEa.mm x hx) j hj) hR) hs,hm,by rw [<- ha.len];exact congrArg _ (List.length_map _)⟩
 case transpose=>
  have ha:=ha (by decide)
  have h2:sa.length=2:=by
   rcases Nat.decEq sa.length 2 with h|h
   · rw [show ofZ ⟨Opc.str .transpose,A,B,name,s,k,n,d⟩ sa sb=_ from aIm h] at hz
     cases hz
   · exact h
  obtain ⟨p,q,rfl⟩:=aKw h2
  rw [show ofZ ⟨Opc.str .transpose,A,B,name,s,k,n,d⟩ [p,q] sb=([q,p],true) from rfl] at hz
  obtain ⟨rfl,_⟩:=Prod.mk.inj hz
  have hdm:=aCs ha.ok
  have h1:=hdm p (by simp)
  have h2:=hdm q (by simp)
  obtain ⟨p,rfl⟩:∃m:Nat,p=m:=⟨p.toNat,by omega⟩
  obtain ⟨q,rfl⟩:∃m:Nat,q=m:=⟨q.toNat,by omega⟩
  refine ⟨.transpose ha,λz hz=>?_,?_⟩
  · obtain ⟨j,_,rfl⟩:=List.mem_map.1 (show z∈aG7 p q a from hz)
    exact bJs hEa.mm o1 _
  · show (((aG7 p q a).length:Nat):Int)=_
    rw [aKn];simp [aA8]
 case sum=>
  rw [show ofZ ⟨Opc.str .sum,A,B,name,s,k,n,d⟩ sa sb=([],true) from rfl] at hz
  obtain ⟨rfl,_⟩:=Prod.mk.inj hz
  have ha:=ha (by decide)
  have hvl:=ha.vl
  refine ⟨.sum (by omega) ha hs,λz hz=>?_,rfl⟩
  obtain rfl:=List.mem_singleton.1 (show z∈[aEf a] from hz)
  have:=aMr hEa.mm (C:=10 ^ (a.length*Ea)) (by rw [<- Nat.pow_mul,Nat.mul_comm];exact Nat.le_refl _) (aNo (Nat.le_trans o1 (Nat.le_mul_of_pos_left _ (by omega)))) a.length (Nat.le_refl _)
  rwa [List.take_length] at this
 case reshape=>
  rw [show ofZ ⟨Opc.str .reshape,A,B,name,s,k,n,d⟩ sa sb=(s,decide (aDj s=aDj sa)) from rfl] at hz
  have h2:=of_decide_eq_true (congrArg Prod.snd hz)
  have ha:=ha (by decide)
  rw [aIj hok,aIj ha.ok] at h2
  have hl:((a.length:Nat):Int)=aA8 s:=by rw [h2];exact ha.len
  exact ⟨.reshape ha hok hl,hEa.mm,hl⟩
 case spread=>
  rw [show ofZ ⟨Opc.str .spread,A,B,name,s,k,n,d⟩ sa sb=(s,decide ((sa.length:Int)=0)) from rfl] at hz
  have h2:=of_decide_eq_true (congrArg Prod.snd hz)
  have ha:=ha (by decide)
  obtain rfl:sa=[]:=List.length_eq_zero_iff.1 (by omega)
  have hl:=ha.len
  rw [show aA8 []=1 from rfl] at hl
  obtain ⟨x,rfl⟩:∃x,a=[x]:=List.length_eq_one_iff.1 (by omega)
  obtain ⟨m,hm⟩:∃m:Nat,aA8 s=((m+1:Nat):Int):=⟨(aA8 s).toNat - 1,by omega⟩
  have e:bPd .spread s k n d [] [x] sb b=List.replicate (m+1) x:=by show List.replicate (aA8 s).toNat x=_;rw [hm];rfl
  rw [e]
  refine ⟨.spread (by omega) (ha.rs x List.mem_cons_self) hok hm,λz hz=>?_,by rw [List.length_replicate,hm]⟩
  rw [List.eq_of_mem_replicate hz]
  exact hEa.mm x List.mem_cons_self
 case matmul=>
  have ha:=ha (by decide)
  have hb:=hb (by decide)
  by_cases h:sa.length=2/\sb.length=2/\sa[1]? =sb[0]?
  case neg=>
   rw [show ofZ ⟨Opc.str .matmul,A,B,name,s,k,n,d⟩ sa sb=_ from aKd h] at hz
   cases hz
  obtain ⟨p,q,rfl⟩:=aKw h.1
  obtain ⟨q',c,rfl⟩:=aKw h.2.1
  obtain rfl:q=q':=Option.some.inj h.2.2
  rw [show ofZ ⟨Opc.str .matmul,A,B,name,s,k,n,d⟩ [p,q] [q,c]=([p,c],true) from if_pos rfl] at hz
  obtain ⟨rfl,_⟩:=Prod.mk.inj hz
  have h1:=aCs ha.ok p (by simp)
  have h2:=aCs ha.ok q (by simp)
  have h3:=aCs hb.ok c (by simp)
  obtain ⟨p,rfl⟩:∃m:Nat,p=m:=⟨p.toNat,by omega⟩
  obtain ⟨q,rfl⟩:∃m:Nat,q=m:=⟨q.toNat,by omega⟩
  obtain ⟨c,rfl⟩:∃m:Nat,c=m:=⟨c.toNat,by omega⟩
  have hR:q*(Ea+Eb)<=45000:=hR
  have ht:∀i j,MM (atR a i*atR b j)<=10 ^ (Ea+Eb):=λi j=>Nat.le_trans (aXy _ _) (aJs (bJs hEa.mm o1 _) (bJs hEb.mm o2 _))
  have hsum:∀i k j,j<=q->MM (aEf ((aCv q c a b i k).take j))<=10 ^ (q*(Ea+Eb)):=λi k j hj=>by
   refine aMr (A:=10 ^ (Ea+Eb)) (λz hz=>?_) ?_ (aNo (Nat.le_trans o1 (Nat.le_trans (Nat.le_add_right _ _) (Nat.le_mul_of_pos_left _ (by omega))))) j (by rw [aBt];exact hj)
   · obtain ⟨t,_,rfl⟩:=List.mem_map.1 hz
     exact ht _ _
   · rw [aBt,<-Nat.pow_mul,Nat.mul_comm];exact Nat.le_refl _
  refine ⟨.matmul ha hb hok (λi k j _ _ _=>aG9 (ht _ _) hab) (λi k j _ _ hj=>aG9 (hsum i k j hj) hR),λz hz=>?_,?_⟩
  · obtain ⟨t,_,rfl⟩:=List.mem_map.1 (show z∈bIu p q c a b from hz)
    have:=hsum (t / c) (t % c) q (Nat.le_refl _)
    rwa [List.take_of_length_le (by rw [aBt];exact Nat.le_refl _)] at this
  · show (((bIu p q c a b).length:Nat):Int)=_
    rw [aOr];simp [aA8]
end Go.V
