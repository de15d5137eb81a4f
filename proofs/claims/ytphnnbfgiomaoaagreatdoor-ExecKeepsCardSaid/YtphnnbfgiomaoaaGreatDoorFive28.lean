/-
  Lemmas (part 28) for: the statement.
-/
import Derived.Test.YtphnnbfgiomaoaaGreatDoorFive20
import Derived.Test.YtphnnbfgiomaoaaGreatDoorFive26
import Derived.Test.YtphnnbfgiomaoaaGreatDoorFive27
set_option linter.all false
namespace Go.V
open Go.N Go.Proofs
set_option maxRecDepth 20000
def cM5:Tab:=[(34,i34),(40,i40),(37,i37),(42,i42),(3,i3),(9,i9),(27,i27)]
theorem cIv:TOK Tryz.prog cM5:=⟨K34,⟨K40,⟨K37,⟨K42,⟨K3,⟨K9,⟨K27,trivial⟩⟩⟩⟩⟩⟩⟩
def cNn:Tab:=[(24,i24),(27,i27),(3,i3),(110,cYi),(28,i28),(22,i22),(34,i34),(9,i9),(37,i37),(42,i42),(40,i40),(4,i4),(46,i46),(32,i32)]
theorem cK9:TOK Tryz.prog cNn:=⟨K24,⟨K27,⟨K3,⟨cYo,⟨K28,⟨K22,⟨K34,⟨K9,⟨K37,⟨K42,⟨K40,⟨K4,⟨K46,⟨K32,trivial⟩⟩⟩⟩⟩⟩⟩⟩⟩⟩⟩⟩⟩⟩
set_option maxHeartbeats 4000000 in
theorem cM9 (bs:List Bd) (x:Nd) (hbl:bs.length<=1000) (hbs:∀b∈bs,b.Sm) (hx:x.Sm):aAc Tryz.prog GL 72 [.agg x.cells,.ro 3 (aA5 bs)]
 (λy=>y= .tup [aEv (bLo bs x).1 (bLo bs x).2,.bool (aDx bs x)]):=by
 have hbr:=aBk bs
 have hxs:=hx.shape
 refine aAc.taken ?_
 rcases aNd bs x.name with ⟨hf,hall⟩|⟨k,hk,hf,hn,hall⟩
 · rw [show bLo bs x=([],[]) by rw [bLo,hf],show aDx bs x=false by rw [aDx,hf]]
   clear hf hbs
   obtain ⟨op,A,B,name,s,kk,n,d⟩:=x
   dsimp only at hall ⊢
   refine vgo cIv Tryz.func72 ?_
   repeat' first|refine sV ⟨?_⟩|refine sq (λh=>⟨?_⟩) λh=>⟨?_⟩|fail
   refine ⟨[2,4,8,9,10],[0,1],λm st=>∃i:Nat,i<=bs.length/\m=bs.length - i/\st=⟨[(2,.bptr 0 0),(4,.bptr 1 0),(8,.ro 3 (aA5 bs)),(9,.int .i64 ((aA5 bs).length:Nat)),(10,.int .i64 (i:Nat))],
    [.box 34 [.str op,.int .i64 A,.int .i64 B,.str name,.ro 1 (aAh s),.str kk,.int .i64 n,.ro 1 (aCm d)],.box 40 [.nils,.nils]]⟩,rfl,⟨bs.length,0,by omega,rfl,rfl⟩,?_⟩
   rintro m _ ⟨i,hi,hm,rfl⟩
   rcases Nat.lt_or_ge i bs.length with hil|hge
   · have gi:=aDs hil
     have hne:=hall i hil
     generalize bs[i]=c at gi hne
     obtain ⟨cn,csh,cda⟩:=c
     dsimp only at hne
     repeat' first|refine sV ⟨?_⟩|refine sq (λh=>⟨?_⟩) λh=>⟨?_⟩|fail
     all_goals exact ⟨[0,1],bs.length - (i+1),rfl,by omega,i+1,by omega,rfl,rfl⟩
   · repeat' first|refine sV ⟨?_⟩|refine sq (λh=>⟨?_⟩) λh=>⟨?_⟩|fail
     all_goals (conv=>whnf)
     all_goals exact ⟨_,aAf (aFo (show aC7 .nils (.ro 1 []) from ⟨1,rfl⟩) (show aC7 .nils (.ro 1 []) from ⟨1,rfl⟩)) rfl,rfl⟩
 · rw [show bLo bs x=(bs[k].shape,bs[k].data) by rw [bLo,hf],show aDx bs x=(okT bs[k].shape bs[k].data && decide (bs[k].shape=x.shape)) by rw [aDx,hf]]
   have hb:=hbs bs[k] (List.getElem_mem hk)
   have hR:=bE3 bs[k].shape bs[k].data hb.shape hb.data (λd hd=>Nat.lt_of_le_of_lt (hb.each d hd) (by decide))
   have hS:=aC4 GL bs[k].shape x.shape (by have:=hb.shape;omega) (by omega)
   have g:=aDs hk
   clear hf hb hbs
   generalize bs[k]=b at g hR hS hn ⊢
   obtain ⟨bn,bsh,bda⟩:=b
   obtain ⟨op,A,B,name,s,kk,n,d⟩:=x
   dsimp only at hR hS hn hall ⊢
   unfold aEv at hR ⊢
   cases hT:okT bsh bda
   · rw [hT] at hR
     refine vgo cIv Tryz.func72 ?_
     repeat' first|refine sV ⟨?_⟩|refine sq (λh=>⟨?_⟩) λh=>⟨?_⟩|fail
     refine ⟨[2,4,8,9,10],[0,1],λm st=>∃i:Nat,i<=k/\m=k - i/\st=⟨[(2,.bptr 0 0),(4,.bptr 1 0),(8,.ro 3 (aA5 bs)),(9,.int .i64 ((aA5 bs).length:Nat)),(10,.int .i64 (i:Nat))],
      [.box 34 [.str op,.int .i64 A,.int .i64 B,.str name,.ro 1 (aAh s),.str kk,.int .i64 n,.ro 1 (aCm d)],.box 40 [.nils,.nils]]⟩,rfl,⟨k,0,by omega,rfl,rfl⟩,?_⟩
     rintro m _ ⟨i,hi,hm,rfl⟩
     rcases Nat.lt_or_ge i k with hik|hge
     · have gi:=aDs (show i<bs.length by omega)
       have hne:=hall i (by omega) hik
       generalize bs[i]=c at gi hne
       obtain ⟨cn,csh,cda⟩:=c
       dsimp only at hne
       repeat' first|refine sV ⟨?_⟩|refine sq (λh=>⟨?_⟩) λh=>⟨?_⟩|fail
       all_goals exact ⟨[0,1],k - (i+1),rfl,by omega,i+1,by omega,rfl,rfl⟩
     · obtain rfl:i=k:=by omega
       repeat' first|refine sV ⟨?_⟩|refine sq (λh=>⟨?_⟩) λh=>⟨?_⟩|fail
       refine ⟨by decide +kernel,[0,1,0,4,12,28,60,124,252,60,572,2044,4092,4095,16383],by decide +kernel,?_⟩
       repeat' first|refine sV ⟨?_⟩|refine sq (λh=>⟨?_⟩) λh=>⟨?_⟩|fail
       all_goals (conv=>whnf)
       all_goals exact ⟨_,aAf (aFo rfl rfl) rfl,rfl⟩
   rw [hT] at hR
   by_cases h2:bsh=s
   · rw [decide_eq_true h2] at hS ⊢
     refine vgo cIv Tryz.func72 ?_
     repeat' first|refine sV ⟨?_⟩|refine sq (λh=>⟨?_⟩) λh=>⟨?_⟩|fail
     refine ⟨[2,4,8,9,10],[0,1],λm st=>∃i:Nat,i<=k/\m=k - i/\st=⟨[(2,.bptr 0 0),(4,.bptr 1 0),(8,.ro 3 (aA5 bs)),(9,.int .i64 ((aA5 bs).length:Nat)),(10,.int .i64 (i:Nat))],
      [.box 34 [.str op,.int .i64 A,.int .i64 B,.str name,.ro 1 (aAh s),.str kk,.int .i64 n,.ro 1 (aCm d)],.box 40 [.nils,.nils]]⟩,rfl,⟨k,0,by omega,rfl,rfl⟩,?_⟩
     rintro m _ ⟨i,hi,hm,rfl⟩
     rcases Nat.lt_or_ge i k with hik|hge
     · have gi:=aDs (show i<bs.length by omega)
       have hne:=hall i (by omega) hik
       generalize bs[i]=c at gi hne
       obtain ⟨cn,csh,cda⟩:=c
       dsimp only at hne
       repeat' first|refine sV ⟨?_⟩|refine sq (λh=>⟨?_⟩) λh=>⟨?_⟩|fail
       all_goals exact ⟨[0,1],k - (i+1),rfl,by omega,i+1,by omega,rfl,rfl⟩
     · obtain rfl:i=k:=by omega
       repeat' first|refine sV ⟨?_⟩|refine sq (λh=>⟨?_⟩) λh=>⟨?_⟩|fail
       refine ⟨by decide +kernel,[0,1,0,4,12,28,60,124,252,60,572,2044,4092,4095,16383],by decide +kernel,?_⟩
       repeat' first|refine sV ⟨?_⟩|refine sq (λh=>⟨?_⟩) λh=>⟨?_⟩|fail
       all_goals (conv=>whnf)
       all_goals exact ⟨_,aAf (aFo rfl rfl) rfl,rfl⟩
   · rw [decide_eq_false h2] at hS ⊢
     refine vgo cIv Tryz.func72 ?_
     repeat' first|refine sV ⟨?_⟩|refine sq (λh=>⟨?_⟩) λh=>⟨?_⟩|fail
     refine ⟨[2,4,8,9,10],[0,1],λm st=>∃i:Nat,i<=k/\m=k - i/\st=⟨[(2,.bptr 0 0),(4,.bptr 1 0),(8,.ro 3 (aA5 bs)),(9,.int .i64 ((aA5 bs).length:Nat)),(10,.int .i64 (i:Nat))],
      [.box 34 [.str op,.int .i64 A,.int .i64 B,.str name,.ro 1 (aAh s),.str kk,.int .i64 n,.ro 1 (aCm d)],.box 40 [.nils,.nils]]⟩,rfl,⟨k,0,by omega,rfl,rfl⟩,?_⟩
     rintro m _ ⟨i,hi,hm,rfl⟩
     rcases Nat.lt_or_ge i k with hik|hge
     · have gi:=aDs (show i<bs.length by omega)
       have hne:=hall i (by omega) hik
       generalize bs[i]=c at gi hne
       obtain ⟨cn,csh,cda⟩:=c
       dsimp only at hne
       repeat' first|refine sV ⟨?_⟩|refine sq (λh=>⟨?_⟩) λh=>⟨?_⟩|fail
       all_goals exact ⟨[0,1],k - (i+1),rfl,by omega,i+1,by omega,rfl,rfl⟩
     · obtain rfl:i=k:=by omega
       repeat' first|refine sV ⟨?_⟩|refine sq (λh=>⟨?_⟩) λh=>⟨?_⟩|fail
       refine ⟨by decide +kernel,[0,1,0,4,12,28,60,124,252,60,572,2044,4092,4095,16383],by decide +kernel,?_⟩
       repeat' first|refine sV ⟨?_⟩|refine sq (λh=>⟨?_⟩) λh=>⟨?_⟩|fail
       all_goals (conv=>whnf)
       all_goals exact ⟨_,aAf (aFo rfl rfl) rfl,rfl⟩
noncomputable def cJb (bd:Nd->List Rat) (l:List Nd) (keep:List Int):List (List AV):=keep.map λk=>tcE bd l k.toNat
noncomputable def cJc (bs:List Bd) (g:Gr) (keep:List Int) (steps:Int):AV:=
 if cEu g keep=true then (if aCt bs g.nodes=true then (if (g.nodes.length:Int)<=steps then .tup [.ro 2 (cJb (bdB bs) g.nodes keep),.str (aAw (aGc bs g)),.int .i64 0] else .tup [.ro 2 [],.str ⟨#[]⟩,.int .i64 9]) else .tup [.ro 2 [],.str ⟨#[]⟩,.int .i64 10]) else .tup [.ro 2 [],.str ⟨#[]⟩,.int .i64 1]
theorem cMz {bd:Nd->List Rat}{l:List Nd}{keep:List Int}{i k:Nat}(h:i<keep.length) (hk:keep[i]=(k:Nat)):cJb bd l (keep.take (i+1))=List.take (cJb bd l (keep.take i)).length (cJb bd l (keep.take i))++[tcE bd l k]:=by
 rw [List.take_length,List.take_succ_eq_append_getElem h,cJb,cJb,List.map_append,hk]
 rfl
theorem cM1 (bd:Nd->List Rat) (l:List Nd) (w:Option Nat):slC bd l w=[.nils,.nils]\/∃s v,slC bd l w=[.ro 1 (aAh s),.ro 1 (aAj v)]:=by
 cases w with
 |none=>exact .inl rfl
 |some j=>exact .inr ⟨_,_,rfl⟩
theorem cNk (bd:Nd->List Rat) (l:List Nd) (w:Option Nat):∃t1 t2,slC bd l w=[t1,t2]:=by
 cases w with
 |none=>exact ⟨_,_,rfl⟩
 |some j=>exact ⟨_,_,rfl⟩
theorem cLq (bd:Nd->List Rat) (l:List Nd) (keep:List Int):(cJb bd l keep).length=keep.length:=by simp [cJb]
set_option maxHeartbeats 16000000 in
theorem cK7 (bs:List Bd) (g:Gr) (keep:List Int) (steps:Int) (hs:∀x∈g.nodes,x.Sm) (hl:g.nodes.length<=1000) (hkl:keep.length<=1000) (hbl:bs.length<=1000) (hbs:∀b∈bs,b.Sm) (hG:aC1 g=true->aG8 (bdB bs) g.nodes)
 (hlen:aC1 g=true->∀j x,g.nodes[j]? =some x->(((aAk (bdB bs) g.nodes j).length:Nat):Int)=aA8 x.shape):
 aAc Tryz.prog GL 37 [.agg g.cells,.ro 1 (aAh keep),.ro 3 (aA5 bs),.int .i64 steps] (λy=>y=cJc bs g keep steps):=by
 have hpm:=cNi g keep hs hl hkl
 refine aAc.taken ?_
 cases hok:cEu g keep
 · rw [hok,if_neg (by simp)] at hpm
   rw [cJc,hok,if_neg (by simp)]
   obtain ⟨l,p⟩:=g
   refine vgo cK9 Tryz.func37 ?_
   repeat' first|refine sV ⟨?_⟩|refine sq (λh=>⟨?_⟩) λh=>⟨?_⟩|fail
   all_goals (conv=>whnf)
   all_goals exact ⟨_,cHx (show aC7 .nils (.ro 2 []) from ⟨2,rfl⟩) rfl rfl,rfl⟩
 rw [hok,if_pos rfl] at hpm
 have hg:aC1 g=true:=by simp only [cEu,Bool.and_eq_true] at hok;exact hok.1
 have hkk:cEx g keep=true:=by simp only [cEu,Bool.and_eq_true] at hok;exact hok.2
 have hke:=λ{x:Int}=>@cE7 g keep hkk x
 have hG:=hG hg
 obtain ⟨h1,h2,q,hq1,hq⟩:=aMd hg
 have hlv:=aWx hg (hlen hg) hq1 hq
 have hpt:=λ{i:Nat} {x:Nd}=>@aT2 (bdB bs) g hg hG i x
 have hbv:=λ{i:Nat} {x:Nd}=>@bTq bs g hg i x
 have hop1:=λ{i:Nat} {x:Nd}=>@aIo g hg i x
 have hgx:∀i (h:i<g.nodes.length),g.nodes[i]? =some g.nodes[i]:=λi h=>List.getElem?_eq_getElem h
 have hbo:=λi (h:i<g.nodes.length)=>cM9 bs g.nodes[i] hbl hbs (hs _ (List.getElem_mem h))
 have hbt:=λi (h:i<g.nodes.length)=>@bVt bs g.nodes[i]
 have hbad:∀i (h:i<g.nodes.length),g.nodes[i].name≠⟨#[]⟩->aDx bs g.nodes[i]=false->aCt bs g.nodes=false:=λi h h1 h2=>List.all_eq_false.2 ⟨_,List.getElem_mem h,by simp [h1,h2]⟩
 have hgood:(∀ i (h:i<g.nodes.length),g.nodes[i].name≠⟨#[]⟩->aDx bs g.nodes[i]=true)->aCt bs g.nodes=true:=λh=>List.all_eq_true.2 λx hx=>by
  obtain ⟨k,hk,rfl⟩:=List.getElem_of_mem hx
  by_cases hn:g.nodes[k].name=⟨#[]⟩
  · simp [hn]
  · simp [h k hk hn]
 have hY1:aCt bs g.nodes=true->(g.nodes.length:Int)<=steps->cJc bs g keep steps= .tup [.ro 2 (cJb (bdB bs) g.nodes keep),.str (aAw (aGc bs g)),.int .i64 0]:=λe1 e2=>by rw [cJc,hok,if_pos rfl,e1,if_pos rfl,if_pos e2]
 have hY2:aCt bs g.nodes=true->¬(g.nodes.length:Int)<=steps->cJc bs g keep steps= .tup [.ro 2 [],.str ⟨#[]⟩,.int .i64 9]:=λe1 e2=>by rw [cJc,hok,if_pos rfl,e1,if_pos rfl,if_neg e2]
 have hY3:aCt bs g.nodes=false->cJc bs g keep steps= .tup [.ro 2 [],.str ⟨#[]⟩,.int .i64 10]:=λe1=>by rw [cJc,hok,if_pos rfl,e1,if_neg (by simp)]
 have hA1:∀k:Nat,(k:Int)∈g.loss::keep->cIk (cI0 g keep) g.nodes.length (cIe (cI0 g keep) k)=some k:=λk h=>by
  have hk:k<g.nodes.length:=by
   rcases List.mem_cons.1 h with e|e
   · omega
   · obtain ⟨k',e1,e2⟩:=hke e;omega
  exact (cNg _ _ k hk (by rw [cMp h];omega)).2
 have hA2:∀(i k:Nat) (x:Nd),g.nodes[i]? =some x->(k:Int)∈cEp x->k<i->cIk (cI0 g keep) i (cIe (cI0 g keep) k)=some k:=λi k x hx hd hki=>by
  obtain ⟨o,ho,_⟩:=hop1 hx
  exact (cNg _ _ k hki (cMw hx (by rw [ho,aFw]) hd)).2
 generalize cI0 g keep=L at hpm hA1 hA2
 generalize cJc bs g keep steps=Z at hY1 hY2 hY3 ⊢
 generalize aCt bs g.nodes=T at hbad hgood hY1 hY2 hY3
 generalize hsLe:aAw (aGc bs g)=sL at hY1
 have hcn:=cLs L g.nodes.length
 have hsl:=λ{j:Nat} (h:j<g.nodes.length)=>cM2 L h
 generalize (cIb L g.nodes.length).length=cnt at hpm hcn hsl
 generalize hbd:bdB bs=bd at*
 clear hbd hG hok hkk
 obtain ⟨l,p⟩:=g
 dsimp only at*
 subst hq1
 replace hpm:aAc Tryz.prog GL 71 [.agg [.ro 8 (aAv l),.int .i64 (q:Nat)],.ro 1 (aAh keep)] (λy=>y= .tup [.agg [.ro 1 (aAh (cId L l.length)),.int .i64 (cnt:Nat)],.int .i64 0]):=hpm
 show aAc _ _ _ [.agg [.ro 8 (aAv l),.int .i64 (q:Nat)],_,_,_] _
 have hlr:=rowN_length l
 have hbr:=aBk bs
 have hkr:=rowZ_length keep
 have hzr:=rowZ_length (cId L l.length)
 rw [cI5] at hzr
 have hgS:=λ{j:Nat} (h:j<l.length)=>cMu (L:=L) h
 have hGL:∀i (h:i<l.length),aBv l (i:Nat)=l[i].shape:=λi h=>aAp h
 by_cases hst:(l.length:Int)<=steps
 case neg=>
  refine vgo cK9 Tryz.func37 ?_
  repeat' first|refine sV ⟨?_⟩|refine sq (λh=>⟨?_⟩) λh=>⟨?_⟩|fail
  refine ⟨[1,2,3,4,11,34,35,36],[0,1],λm st=>∃i:Nat,i<=l.length/\m=l.length - i/\(∀ j (h:j<l.length),j<i->l[j].name≠⟨#[]⟩->aDx bs l[j]=true)/\
   st=⟨[(1,.ro 1 (aAh keep)),(2,.ro 3 (aA5 bs)),(3,.int .i64 steps),(4,.bptr 0 0),(11,.bptr 1 0),(34,.ro 8 (aAv l)),(35,.int .i64 ((aAv l).length:Nat)),(36,.int .i64 (i:Nat))],
    [.box 24 [.ro 8 (aAv l),.int .i64 (q:Nat)],.box 110 [.ro 1 (aAh (cId L l.length)),.int .i64 (cnt:Nat)]]⟩,rfl,⟨l.length,0,by omega,rfl,λj h h0=>absurd h0 (Nat.not_lt_zero _),rfl⟩,?_⟩
  rintro m _ ⟨i,hi,hm,hall,rfl⟩
  rcases Nat.lt_or_ge i l.length with hil|hge
  · have hx:=hgx i hil
    have g1:=aB1 hil
    have hnx:(l[i].name≠⟨#[]⟩->aDx bs l[i]=true)->∀j (h:j<l.length),j<i+1->l[j].name≠⟨#[]⟩->aDx bs l[j]=true:=λh j hj hji=>(Nat.lt_succ_iff_lt_or_eq.1 hji).elim (hall j hj) (λe=>by subst e;exact h)
    have hb:=hbo i hil
    have hbd:=hbad i hil
    by_cases hn:l[i].name=⟨#[]⟩
    · have hnx:=hnx λh=>absurd hn h
      generalize l[i]=x at g1 hn
      obtain ⟨op,A,B,name,s,k,n,d⟩:=x
      dsimp only at hn
      repeat' first|refine sV ⟨?_⟩|refine sq (λh=>⟨?_⟩) λh=>⟨?_⟩|fail
      all_goals exact ⟨[0,1],l.length - (i+1),rfl,by omega,i+1,by omega,rfl,hnx,rfl⟩
    · have hbd:=hbd hn
      generalize (bLo bs l[i]).1=S at hb
      generalize (bLo bs l[i]).2=D at hb
      generalize aDx bs l[i]=ok at hb hbd hnx
      generalize l[i]=x at g1 hn hb hnx
      obtain ⟨op,A,B,name,s,k,n,d⟩:=x
      dsimp only at hn hb
      unfold aEv at hb
      cases ok
      · have hT:=hY3 (hbd rfl)
        repeat' first|refine sV ⟨?_⟩|refine sq (λh=>⟨?_⟩) λh=>⟨?_⟩|fail
        all_goals (conv=>whnf)
        all_goals exact ⟨_,cHx (show aC7 .nils (.ro 2 []) from ⟨2,rfl⟩) rfl rfl,hT.symm⟩
      · have hnx:=hnx λ_=>rfl
        repeat' first|refine sV ⟨?_⟩|refine sq (λh=>⟨?_⟩) λh=>⟨?_⟩|fail
        all_goals exact ⟨[0,1],l.length - (i+1),rfl,by omega,i+1,by omega,rfl,hnx,rfl⟩
  · have hT:=hY2 (hgood λj h=>hall j h (by omega)) hst
    repeat' first|refine sV ⟨?_⟩|refine sq (λh=>⟨?_⟩) λh=>⟨?_⟩|fail
    all_goals (conv=>whnf)
    all_goals exact ⟨_,cHx (show aC7 .nils (.ro 2 []) from ⟨2,rfl⟩) rfl rfl,hT.symm⟩
 case pos=>
  refine vgo cK9 Tryz.func37 ?_
  repeat' first|refine sV ⟨?_⟩|refine sq (λh=>⟨?_⟩) λh=>⟨?_⟩|fail
  refine ⟨[1,2,3,4,11,34,35,36],[0,1],λm st=>∃i:Nat,i<=l.length/\m=l.length - i/\(∀ j (h:j<l.length),j<i->l[j].name≠⟨#[]⟩->aDx bs l[j]=true)/\
   st=⟨[(1,.ro 1 (aAh keep)),(2,.ro 3 (aA5 bs)),(3,.int .i64 steps),(4,.bptr 0 0),(11,.bptr 1 0),(34,.ro 8 (aAv l)),(35,.int .i64 ((aAv l).length:Nat)),(36,.int .i64 (i:Nat))],
    [.box 24 [.ro 8 (aAv l),.int .i64 (q:Nat)],.box 110 [.ro 1 (aAh (cId L l.length)),.int .i64 (cnt:Nat)]]⟩,rfl,⟨l.length,0,by omega,rfl,λj h h0=>absurd h0 (Nat.not_lt_zero _),rfl⟩,?_⟩
  rintro m _ ⟨i,hi,hm,hall,rfl⟩
  rcases Nat.lt_or_ge i l.length with hil|hge
  · have hx:=hgx i hil
    have g1:=aB1 hil
    have hnx:(l[i].name≠⟨#[]⟩->aDx bs l[i]=true)->∀j (h:j<l.length),j<i+1->l[j].name≠⟨#[]⟩->aDx bs l[j]=true:=λh j hj hji=>(Nat.lt_succ_iff_lt_or_eq.1 hji).elim (hall j hj) (λe=>by subst e;exact h)
    have hb:=hbo i hil
    have hbd:=hbad i hil
    by_cases hn:l[i].name=⟨#[]⟩
    · have hnx:=hnx λh=>absurd hn h
      generalize l[i]=x at g1 hn
      obtain ⟨op,A,B,name,s,k,n,d⟩:=x
      dsimp only at hn
      repeat' first|refine sV ⟨?_⟩|refine sq (λh=>⟨?_⟩) λh=>⟨?_⟩|fail
      all_goals exact ⟨[0,1],l.length - (i+1),rfl,by omega,i+1,by omega,rfl,hnx,rfl⟩
    · have hbd:=hbd hn
      generalize (bLo bs l[i]).1=S at hb
      generalize (bLo bs l[i]).2=D at hb
      generalize aDx bs l[i]=ok at hb hbd hnx
      generalize l[i]=x at g1 hn hb hnx
      obtain ⟨op,A,B,name,s,k,n,d⟩:=x
      dsimp only at hn hb
      unfold aEv at hb
      cases ok
      · have hT:=hY3 (hbd rfl)
        repeat' first|refine sV ⟨?_⟩|refine sq (λh=>⟨?_⟩) λh=>⟨?_⟩|fail
        all_goals (conv=>whnf)
        all_goals exact ⟨_,cHx (show aC7 .nils (.ro 2 []) from ⟨2,rfl⟩) rfl rfl,hT.symm⟩
      · have hnx:=hnx λ_=>rfl
        repeat' first|refine sV ⟨?_⟩|refine sq (λh=>⟨?_⟩) λh=>⟨?_⟩|fail
        all_goals exact ⟨[0,1],l.length - (i+1),rfl,by omega,i+1,by omega,rfl,hnx,rfl⟩
  have hall:∀j (h:j<l.length),l[j].name≠⟨#[]⟩->aDx bs l[j]=true:=λj h=>hall j h (by omega)
  have hT:=hY1 (hgood hall) hst
  clear hgood hY1 hY2 hY3 hbad
  repeat' first|refine sV ⟨?_⟩|refine sq (λh=>⟨?_⟩) λh=>⟨?_⟩|fail
  refine ⟨by omega,Int.le_refl _,by omega,(show ((cnt:Nat):Int)*((48:Nat):Int)<=140737488355328 by omega),cnt,rfl,?_⟩
  repeat' first|refine sV ⟨?_⟩|refine sq (λh=>⟨?_⟩) λh=>⟨?_⟩|fail
  refine ⟨[1,2,4,11,17,61,62,63],[0,1,2],λm st=>∃i:Nat,i<=l.length/\m=l.length - i/\
   st=⟨[(1,.ro 1 (aAh keep)),(2,.ro 3 (aA5 bs)),(4,.bptr 0 0),(11,.bptr 1 0),(17,.own 2 0 cnt),(61,.ro 8 (aAv l)),(62,.int .i64 ((aAv l).length:Nat)),(63,.int .i64 (i:Nat))],
    [.box 24 [.ro 8 (aAv l),.int .i64 (q:Nat)],.box 110 [.ro 1 (aAh (cId L l.length)),.int .i64 (cnt:Nat)],.row false 40 2 (cIn bd l L cnt i)]⟩,rfl,⟨l.length,0,by omega,rfl,?_⟩,?_⟩
  · exact Eq.trans rfl (congrArg (λz:List (List AV)=>(⟨[(1,.ro 1 (aAh keep)),(2,.ro 3 (aA5 bs)),(4,.bptr 0 0),(11,.bptr 1 0),(17,.own 2 0 cnt),(61,.ro 8 (aAv l)),(62,.int .i64 ((aAv l).length:Nat)),(63,.int .i64 ((0:Nat):Int))],
     [.box 24 [.ro 8 (aAv l),.int .i64 (q:Nat)],.box 110 [.ro 1 (aAh (cId L l.length)),.int .i64 (cnt:Nat)],.row false 40 2 z]⟩:St)) (cMt bd l L cnt))
  rintro m _ ⟨i,hi,hm,rfl⟩
  have hcl:=cJy bd l L cnt i
  rcases Nat.lt_or_ge i l.length with hil|hge
  · have hx:=hgx i hil
    have g1:=aB1 hil
    have gS:=hgS hil
    have hsi:=hsl hil
    obtain ⟨u1,u2,hu⟩:=cNk bd l (cIk L i (cIe L i))
    have gi:(cIn bd l L cnt i)[0+cIe L i]? =some [u1,u2]:=by rw [cIt hsi,hu]
    have hset:(cIn bd l L cnt i).set (0+cIe L i) [.ro 1 (aAh l[i].shape),.ro 1 (aAj (aAk bd l i))]=cIn bd l L cnt (i+1):=cM0 (by rw [tcE,hGL i hil])
    have hend:∀{c:List (List AV)},c=cIn bd l L cnt (i+1)->(⟨[(1,.ro 1 (aAh keep)),(2,.ro 3 (aA5 bs)),(4,.bptr 0 0),(11,.bptr 1 0),(17,.own 2 0 cnt),(61,.ro 8 (aAv l)),(62,.int .i64 ((aAv l).length:Nat)),(63,.int .i64 ((i+1:Nat):Int))],
     [.box 24 [.ro 8 (aAv l),.int .i64 (q:Nat)],.box 110 [.ro 1 (aAh (cId L l.length)),.int .i64 (cnt:Nat)],.row false 40 2 c]⟩:St)=⟨[(1,.ro 1 (aAh keep)),(2,.ro 3 (aA5 bs)),(4,.bptr 0 0),(11,.bptr 1 0),(17,.own 2 0 cnt),(61,.ro 8 (aAv l)),(62,.int .i64 ((aAv l).length:Nat)),(63,.int .i64 ((i+1:Nat):Int))],
     [.box 24 [.ro 8 (aAv l),.int .i64 (q:Nat)],.box 110 [.ro 1 (aAh (cId L l.length)),.int .i64 (cnt:Nat)],.row false 40 2 (cIn bd l L cnt (i+1))]⟩:=λh=>by rw [h]
    have hb:=hbo i hil
    have hbt:=hbt i hil
    by_cases hn:l[i].name=⟨#[]⟩
    · obtain ⟨o,ho,p1,q1,hp,hq',hcase⟩:=hpt hx hn
      obtain ⟨o',ho',F⟩:=hop1 hx
      obtain rfl:o'=o:=aRt (ho'.symm.trans ho)
      have hp2:p1<l.length/\q1<l.length:=by
       rcases hcase with ⟨_,rfl,rfl,_,_⟩|⟨h3,h4,_⟩
       · exact ⟨by omega,by omega⟩
       · exact ⟨by omega,by omega⟩
      have hra:=cH2 (pl:=[]) ho
      have hpa:0<o'.many->cIk L i (cIe L p1)=some p1:=λh=>by
       have hd:=((hra.1 h).2)
       rw [hp] at hd
       refine hA2 i p1 _ hx hd ?_
       obtain ⟨k,e1,e2⟩:=cGi (F.ia h)
       omega
      have hqa:1<o'.many->cIk L i (cIe L q1)=some q1:=λh=>by
       have hd:=((hra.2.1 h).2)
       rw [hq'] at hd
       refine hA2 i q1 _ hx hd ?_
       obtain ⟨k,e1,e2⟩:=cGi (F.ib h)
       omega
      obtain ⟨sa0,a0,sb0,b0,hfit,hfa,hfb⟩:∃sa0 a0 sb0 b0,FitV o' l[i].shape l[i].k l[i].n l[i].data sa0 a0 sb0 b0 (aAk bd l i)/\(0<o'.many->sa0=aBv l (p1:Nat)/\a0=aAk bd l p1)/\(1<o'.many->sb0=aBv l (q1:Nat)/\b0=aAk bd l q1):=by
       rcases hcase with ⟨_,_,_,hc,h⟩|⟨_,_,h⟩
       · have hm0:o'.many=0:=by rw [aRt (o:=o') (o':=.const) (ho.symm.trans hc)];rfl
         exact ⟨_,_,_,_,h,λh=>absurd h (by omega),λh=>absurd h (by omega)⟩
       · exact ⟨_,_,_,_,h,λ_=>⟨rfl,rfl⟩,λ_=>⟨rfl,rfl⟩⟩
      have gA:=hgS hp2.1
      have gB:=hgS hp2.2
      have hsa:=hsl hp2.1
      have hsb:=hsl hp2.2
      have gra:=cIt (bd:=bd) (l:=l) (L:=L) (i:=i) hsa
      have grb:=cIt (bd:=bd) (l:=l) (L:=L) (i:=i) hsb
      have hca:∃sa a,(slC bd l (cIk L i (cIe L p1))=[.ro 1 (aAh sa),.ro 1 (aAj a)]\/(slC bd l (cIk L i (cIe L p1))=[.nils,.nils]/\sa=[]/\a=[]))/\(0<o'.many->sa=sa0/\a=a0):=by
       rcases Nat.eq_zero_or_pos o'.many with h0|h0
       · rcases cM1 bd l (cIk L i (cIe L p1)) with e|⟨s,v,e⟩
         · exact ⟨[],[],.inr ⟨e,rfl,rfl⟩,λh=>absurd h (by omega)⟩
         · exact ⟨s,v,.inl e,λh=>absurd h (by omega)⟩
       · obtain ⟨rfl,rfl⟩:=hfa h0
         exact ⟨_,_,.inl (by rw [hpa h0];rfl),λ_=>⟨rfl,rfl⟩⟩
      have hcb:∃sa a,(slC bd l (cIk L i (cIe L q1))=[.ro 1 (aAh sa),.ro 1 (aAj a)]\/(slC bd l (cIk L i (cIe L q1))=[.nils,.nils]/\sa=[]/\a=[]))/\(1<o'.many->sa=sb0/\a=b0):=by
       rcases Nat.lt_or_ge 1 o'.many with h0|h0
       · obtain ⟨rfl,rfl⟩:=hfb h0
         exact ⟨_,_,.inl (by rw [hqa h0];rfl),λ_=>⟨rfl,rfl⟩⟩
       · rcases cM1 bd l (cIk L i (cIe L q1)) with e|⟨s,v,e⟩
         · exact ⟨[],[],.inr ⟨e,rfl,rfl⟩,λh=>absurd h (by omega)⟩
         · exact ⟨s,v,.inl e,λh=>absurd h (by omega)⟩
      obtain ⟨sa,a,hca,hca2⟩:=hca
      obtain ⟨sb,b,hcb,hcb2⟩:=hcb
      have hfit:=hfit.any hca2 hcb2
      generalize slC bd l (cIk L i (cIe L p1))=ca at gra hca
      generalize slC bd l (cIk L i (cIe L q1))=cb at grb hcb
      generalize aAk bd l i=V at hset hfit
      clear hfa hfb hpa hqa hcase hra F hca2 hcb2 hx hb hbt hop1 hpt hgx hbo hall hu hA2
      generalize l[i]=x at g1 hset hn ho ho' hp hq' hfit
      obtain ⟨op,A,B,name,s,k,n,d⟩:=x
      dsimp only at hset hn ho ho' hp hq' hfit
      subst hn hp hq'
      have hnode:=bDc ((p1:Nat):Int) ((q1:Nat):Int) ⟨#[]⟩ hfit
      rw [<- ho] at hnode
      clear ho ho' hfit
      unfold aBn aAs at hnode
      rcases hca with rfl|⟨rfl,rfl,rfl⟩<;>rcases hcb with rfl|⟨rfl,rfl,rfl⟩
      · repeat' first|refine sV ⟨?_⟩|refine sq (λh=>⟨?_⟩) λh=>⟨?_⟩|fail
        refine ⟨by decide +kernel,[0,0,0,4,0,16,60,124,254,510,0,0,2048,0,8192,30720,63488,130048,261120,524287,1048575,2097151,2097151,4194303,16777215],by decide +kernel,?_⟩
        repeat' first|refine sV ⟨?_⟩|refine sq (λh=>⟨?_⟩) λh=>⟨?_⟩|fail
        refine ⟨by decide +kernel,[0,0,2,0,14,30,0,127,255],by decide +kernel,?_⟩
        repeat' first|refine sV ⟨?_⟩|refine sq (λh=>⟨?_⟩) λh=>⟨?_⟩|fail
        all_goals exact ⟨[0,1,2],l.length - (i+1),rfl,by omega,i+1,by omega,rfl,Eq.trans rfl (hend hset)⟩
      · repeat' first|refine sV ⟨?_⟩|refine sq (λh=>⟨?_⟩) λh=>⟨?_⟩|fail
        refine ⟨by decide +kernel,[0,0,0,4,0,16,60,124,254,510,0,0,2048,0,8192,30720,63488,130048,261120,524287,1048575,2097151,2097151,4194303,16777215],by decide +kernel,?_⟩
        repeat' first|refine sV ⟨?_⟩|refine sq (λh=>⟨?_⟩) λh=>⟨?_⟩|fail
        refine ⟨by decide +kernel,[0,0,2,0,14,30,0,127,255],by decide +kernel,?_⟩
        repeat' first|refine sV ⟨?_⟩|refine sq (λh=>⟨?_⟩) λh=>⟨?_⟩|fail
        all_goals exact ⟨[0,1,2],l.length - (i+1),rfl,by omega,i+1,by omega,rfl,Eq.trans rfl (hend hset)⟩
      · repeat' first|refine sV ⟨?_⟩|refine sq (λh=>⟨?_⟩) λh=>⟨?_⟩|fail
        refine ⟨by decide +kernel,[0,0,0,4,0,16,60,124,254,510,0,0,2048,0,8192,30720,63488,130048,261120,524287,1048575,2097151,2097151,4194303,16777215],by decide +kernel,?_⟩
        repeat' first|refine sV ⟨?_⟩|refine sq (λh=>⟨?_⟩) λh=>⟨?_⟩|fail
        refine ⟨by decide +kernel,[0,0,2,0,14,30,0,127,255],by decide +kernel,?_⟩
        repeat' first|refine sV ⟨?_⟩|refine sq (λh=>⟨?_⟩) λh=>⟨?_⟩|fail
        all_goals exact ⟨[0,1,2],l.length - (i+1),rfl,by omega,i+1,by omega,rfl,Eq.trans rfl (hend hset)⟩
      · repeat' first|refine sV ⟨?_⟩|refine sq (λh=>⟨?_⟩) λh=>⟨?_⟩|fail
        refine ⟨by decide +kernel,[0,0,0,4,0,16,60,124,254,510,0,0,2048,0,8192,30720,63488,130048,261120,524287,1048575,2097151,2097151,4194303,16777215],by decide +kernel,?_⟩
        repeat' first|refine sV ⟨?_⟩|refine sq (λh=>⟨?_⟩) λh=>⟨?_⟩|fail
        refine ⟨by decide +kernel,[0,0,2,0,14,30,0,127,255],by decide +kernel,?_⟩
        repeat' first|refine sV ⟨?_⟩|refine sq (λh=>⟨?_⟩) λh=>⟨?_⟩|fail
        all_goals exact ⟨[0,1,2],l.length - (i+1),rfl,by omega,i+1,by omega,rfl,Eq.trans rfl (hend hset)⟩
    · have hv:=hbv hx hn
      rw [hv] at hset
      have hok:=hall i hil hn
      rw [hok] at hb
      have hbt:=hbt hok
      rw [hbt] at hb
      generalize bd l[i]=V at hset hb
      clear hv hok hbt hx hop1 hpt hgx hbo hall hu hA2
      generalize l[i]=x at g1 hset hn hb
      obtain ⟨op,A,B,name,s,k,n,d⟩:=x
      dsimp only at hset hn hb
      unfold aAs at hb
      repeat' first|refine sV ⟨?_⟩|refine sq (λh=>⟨?_⟩) λh=>⟨?_⟩|fail
      refine ⟨by decide +kernel,[0,0,2,0,14,30,0,127,255],by decide +kernel,?_⟩
      repeat' first|refine sV ⟨?_⟩|refine sq (λh=>⟨?_⟩) λh=>⟨?_⟩|fail
      all_goals exact ⟨[0,1,2],l.length - (i+1),rfl,by omega,i+1,by omega,rfl,Eq.trans rfl (hend hset)⟩
  · have hl2:i=l.length:=by omega
    subst hl2
    have gq:(cIn bd l L cnt l.length)[0+cIe L q]? =some [.ro 1 (aAh (aBv l (q:Nat))),.ro 1 [[.str sL]]]:=by rw [cIt (hsl hq),hA1 q List.mem_cons_self,slC,tcE,hlv,<-hsLe];rfl
    have gSq:=hgS hq
    have hsq:=hsl hq
    clear hop1 hpt hgx hbo hall hA2 hbt hbv
    repeat' first|refine sV ⟨?_⟩|refine sq (λh=>⟨?_⟩) λh=>⟨?_⟩|fail
    refine ⟨[4,11,17,21,112,113,114],[0,1,2],λm st=>∃i:Nat,i<=keep.length/\m=keep.length - i/\
     ((i=0/\st=⟨[(4,.bptr 0 0),(11,.bptr 1 0),(17,.own 2 0 cnt),(21,.nils),(112,.ro 1 (aAh keep)),(113,.int .i64 ((aAh keep).length:Nat)),(114,.int .i64 (i:Nat))],
       [.box 24 [.ro 8 (aAv l),.int .i64 (q:Nat)],.box 110 [.ro 1 (aAh (cId L l.length)),.int .i64 (cnt:Nat)],.row false 40 2 (cIn bd l L cnt l.length)]⟩)\/
      (0<i/\st=⟨[(4,.bptr 0 0),(11,.bptr 1 0),(17,.own 2 0 cnt),(21,.own 3 0 (cJb bd l (keep.take i)).length),(112,.ro 1 (aAh keep)),(113,.int .i64 ((aAh keep).length:Nat)),(114,.int .i64 (i:Nat))],
       [.box 24 [.ro 8 (aAv l),.int .i64 (q:Nat)],.box 110 [.ro 1 (aAh (cId L l.length)),.int .i64 (cnt:Nat)],.row false 40 2 (cIn bd l L cnt l.length),.row false 40 2 (cJb bd l (keep.take i))]⟩)),rfl,⟨keep.length,0,by omega,rfl,.inl ⟨rfl,rfl⟩⟩,?_⟩
    rintro m _ ⟨i,hi,hm,hst⟩
    have hol:=cLq bd l (keep.take i)
    rw [List.length_take] at hol
    rcases Nat.lt_or_ge i keep.length with hil|hge2
    · obtain ⟨k,hk1,hk2⟩:=hke (List.getElem_mem hil)
      have gk:(aAh keep)[i]? =some [.int .i64 (k:Nat)]:=by rw [aE6 hil,hk1]
      have gSk:=hgS hk2
      have hsk:=hsl hk2
      have grk:(cIn bd l L cnt l.length)[0+cIe L k]? =some [.ro 1 (aAh (aBv l (k:Nat))),.ro 1 (aAj (aAk bd l k))]:=by
       rw [cIt hsk,hA1 k (List.mem_cons_of_mem _ (by rw [<- hk1];exact List.getElem_mem hil))];rfl
      have hsn:cJb bd l (keep.take (i+1))=List.take (cJb bd l (keep.take i)).length (cJb bd l (keep.take i))++[[.ro 1 (aAh (aBv l (k:Nat))),.ro 1 (aAj (aAk bd l k))]]:=cMz hil hk1
      have hone:i=0->cJb bd l (keep.take (i+1))=[[.ro 1 (aAh (aBv l (k:Nat))),.ro 1 (aAj (aAk bd l k))]]:=λh=>by subst h;rw [hsn];rfl
      generalize aBv l (k:Nat)=sk at grk hsn hone
      generalize aAk bd l k=vk at grk hsn hone
      rcases hst with ⟨rfl,rfl⟩|⟨h0,rfl⟩
      · have hone:=hone rfl
        repeat' first|refine sV ⟨?_⟩|refine sq (λh=>⟨?_⟩) λh=>⟨?_⟩|fail
        conv=>whnf
        refine ⟨Nat.le_of_ble_eq_true rfl,λh=>Nat.succ_ne_zero _ (congrArg List.length h),?_⟩
        repeat' first|refine sV ⟨?_⟩|refine sq (λh=>⟨?_⟩) λh=>⟨?_⟩|fail
        all_goals exact ⟨[0,1,2,4],keep.length - (0+1),rfl,by omega,0+1,by omega,rfl,.inr ⟨by omega,Eq.trans rfl (congrArg (λz:List (List AV)=>(⟨[(4,.bptr 0 0),(11,.bptr 1 0),(17,.own 2 0 cnt),(21,.own 3 0 z.length),(112,.ro 1 (aAh keep)),(113,.int .i64 ((aAh keep).length:Nat)),(114,.int .i64 ((0+1:Nat):Int))],
        [.box 24 [.ro 8 (aAv l),.int .i64 (q:Nat)],.box 110 [.ro 1 (aAh (cId L l.length)),.int .i64 (cnt:Nat)],.row false 40 2 (cIn bd l L cnt l.length),.row false 40 2 z]⟩:St)) hone.symm)⟩⟩
      · repeat' first|refine sV ⟨?_⟩|refine sq (λh=>⟨?_⟩) λh=>⟨?_⟩|fail
        refine ⟨Nat.le_refl _,(show ((cJb bd l (keep.take i)).length+1)*48<=140737488355328 by omega),_,hsn,?_⟩
        repeat' first|refine sV ⟨?_⟩|refine sq (λh=>⟨?_⟩) λh=>⟨?_⟩|fail
        all_goals exact ⟨[0,1,2,5],keep.length - (i+1),rfl,by omega,i+1,by omega,rfl,.inr ⟨by omega,rfl⟩⟩
    · have e1:keep.take i=keep:=List.take_of_length_le (by omega)
      rcases hst with ⟨h0,rfl⟩|⟨h0,rfl⟩
      · have hk0:cJb bd l keep=[]:=List.length_eq_zero_iff.1 (by rw [cLq];omega)
        rw [hk0] at hT
        repeat' first|refine sV ⟨?_⟩|refine sq (λh=>⟨?_⟩) λh=>⟨?_⟩|fail
        refine ⟨by decide +kernel,[0,0,0,4,0,16,60,124,254,510,1022,2046,4094,1,16383,32767],by decide +kernel,?_⟩
        repeat' first|refine sV ⟨?_⟩|refine sq (λh=>⟨?_⟩) λh=>⟨?_⟩|fail
        all_goals (conv=>whnf)
        all_goals exact ⟨_,cHx (show aC7 .nils (.ro 2 []) from ⟨2,rfl⟩) rfl rfl,hT.symm⟩
      · rw [e1]
        repeat' first|refine sV ⟨?_⟩|refine sq (λh=>⟨?_⟩) λh=>⟨?_⟩|fail
        refine ⟨by decide +kernel,[0,0,0,4,0,16,60,124,254,510,1022,2046,4094,1,16383,32767],by decide +kernel,?_⟩
        repeat' first|refine sV ⟨?_⟩|refine sq (λh=>⟨?_⟩) λh=>⟨?_⟩|fail
        all_goals (conv=>whnf)
        all_goals exact ⟨_,cHx rfl rfl rfl,hT.symm⟩
end Go.V
namespace Go.V
open Go.N Go.Proofs
set_option maxRecDepth 20000
def cM4:Tab:=[(37,i37),(42,i42),(3,i3),(38,i38),(43,i43)]
theorem cMf:TOK Tryz.prog cM4:=⟨K37,⟨K42,⟨K3,⟨K38,⟨K43,trivial⟩⟩⟩⟩⟩
def cMv:Tab:=[(34,i34),(22,i22),(24,i24),(32,i32),(9,i9),(40,i40),(42,i42),(37,i37),(27,i27),(3,i3),(46,i46),(28,i28)]
theorem cL5:TOK Tryz.prog cMv:=⟨K34,⟨K22,⟨K24,⟨K32,⟨K9,⟨K40,⟨K42,⟨K37,⟨K27,⟨K3,⟨K46,⟨K28,trivial⟩⟩⟩⟩⟩⟩⟩⟩⟩⟩⟩⟩
set_option maxHeartbeats 2000000 in
theorem cLa (l:List Bd) (hl:l.length*64<=140737488351232):aAc Tryz.prog GL 36 [.ro 3 (aA5 l)] (λy=>y= .ro 3 (aA5 l)):=by
 refine aAc.taken ?_
 have hlr:=aBk l
 refine vgo cMf Tryz.func36 ?_
 repeat' first|refine sV ⟨?_⟩|refine sq (λh=>⟨?_⟩) λh=>⟨?_⟩|fail
 refine ⟨[3,6,7,8],[],λm st=>∃i:Nat,i<=l.length/\m=l.length - i/\
  ((i=0/\st=⟨[(3,.nils),(6,.ro 3 (aA5 l)),(7,.int .i64 ((aA5 l).length:Nat)),(8,.int .i64 (i:Nat))],[]⟩)\/
  (0<i/\st=⟨[(3,.own 0 0 (aA5 (l.take i)).length),(6,.ro 3 (aA5 l)),(7,.int .i64 ((aA5 l).length:Nat)),(8,.int .i64 (i:Nat))],[.row false 43 3 (aA5 (l.take i))]⟩)),rfl,⟨l.length,0,by omega,rfl,.inl ⟨rfl,rfl⟩⟩,?_⟩
 rintro m _ ⟨i,hi,hm,hst⟩
 have htl:(aA5 (l.take i)).length=i:=by rw [aBk,List.length_take];omega
 rcases Nat.lt_or_ge i l.length with hil|hge
 · have g:=aDs hil
   have hsn:=aKj hil
   have hone:i=0->aA5 (l.take (i+1))=[l[i].cells]:=λh=>by subst h;rw [aKj hil];simp [aA5]
   generalize l[i]=b at g hsn hone
   obtain ⟨bn,bsh,bda⟩:=b
   rcases hst with ⟨rfl,rfl⟩|⟨h0,rfl⟩
   · have hone:=hone rfl
     repeat' first|refine sV ⟨?_⟩|refine sq (λh=>⟨?_⟩) λh=>⟨?_⟩|fail
     conv=>whnf
     refine ⟨Nat.le_of_ble_eq_true rfl,λh=>Nat.succ_ne_zero _ (congrArg List.length h),?_⟩
     repeat' first|refine sV ⟨?_⟩|refine sq (λh=>⟨?_⟩) λh=>⟨?_⟩|fail
     all_goals exact ⟨[2],l.length - (0+1),rfl,by omega,0+1,by omega,rfl,.inr ⟨by omega,Eq.trans rfl (congrArg (λz:List (List AV)=>(⟨[(3,.own 0 0 z.length),(6,.ro 3 (aA5 l)),(7,.int .i64 ((aA5 l).length:Nat)),(8,.int .i64 ((0+1:Nat):Int))],[.row false 43 3 z]⟩:St)) hone.symm)⟩⟩
   · repeat' first|refine sV ⟨?_⟩|refine sq (λh=>⟨?_⟩) λh=>⟨?_⟩|fail
     refine ⟨Nat.le_refl _,(show ((aA5 (l.take i)).length+1)*64<=140737488355328 by omega),_,hsn,?_⟩
     repeat' first|refine sV ⟨?_⟩|refine sq (λh=>⟨?_⟩) λh=>⟨?_⟩|fail
     all_goals exact ⟨[3],l.length - (i+1),rfl,by omega,i+1,by omega,rfl,.inr ⟨by omega,rfl⟩⟩
 · have e:l.take i=l:=List.take_of_length_le (by omega)
   rcases hst with ⟨h0,rfl⟩|⟨h0,rfl⟩
   · obtain rfl:l=[]:=List.length_eq_zero_iff.1 (by omega)
     repeat' first|refine sV ⟨?_⟩|refine sq (λh=>⟨?_⟩) λh=>⟨?_⟩|fail
     all_goals (conv=>whnf)
     all_goals exact ⟨_,(show aC7 .nils (.ro 3 []) from ⟨3,rfl⟩),rfl⟩
   · rw [e]
     repeat' first|refine sV ⟨?_⟩|refine sq (λh=>⟨?_⟩) λh=>⟨?_⟩|fail
     all_goals (conv=>whnf)
     all_goals exact ⟨_,rfl,rfl⟩
def G18:Gr:=⟨[⟨aGh,0,0,⟨#[119]⟩,[],⟨#[]⟩,0,[]⟩,⟨aMk,0,0,⟨#[]⟩,[],⟨#[]⟩,0,[]⟩,⟨aB4,1,0,⟨#[]⟩,[],⟨#[50]⟩,0,[]⟩],2⟩
theorem cNc:aC1 G18=true:=by decide +kernel
theorem cMb:∀x∈G18.nodes,x.Sm:=λx hx=>by
 simp only [G18,List.mem_cons,List.not_mem_nil,or_false] at hx
 rcases hx with rfl|rfl|rfl
 · exact ⟨by decide,by decide,by decide,by decide,λd hd=>by simp at hd⟩
 · exact ⟨by decide,by decide,by decide,by decide,λd hd=>by simp at hd⟩
 · exact ⟨by decide,by decide,by decide,by decide,λd hd=>by simp at hd⟩
theorem cNl:aAk (bdB B12) G18.nodes 0=[3]:=by
 rw [aFy (x:=⟨aGh,0,0,⟨#[119]⟩,[],⟨#[]⟩,0,[]⟩) rfl,bAx,if_pos (by decide)]
 have h:okT ([]:List Int) [⟨#[51]⟩]=true:=by decide +kernel
 show (if okT ([]:List Int) [⟨#[51]⟩]=true/\([]:List Int)=[] then [aN1 ⟨#[51]⟩] else aUu [])=[3]
 rw [if_pos ⟨h,rfl⟩,show (⟨#[51]⟩:ByteArray)=aAw 3 by decide +kernel,aJk]
theorem cNd:aAk (bdB B12) G18.nodes 1=[3]:=by
 rw [aFy (x:=⟨aMk,0,0,⟨#[]⟩,[],⟨#[]⟩,0,[]⟩) rfl,bAx,if_neg (by decide)]
 show List.map aIh ((aKx (bdB B12) G18.nodes 1)[((0:Nat):Int).toNat]?.getD [])=[3]
 rw [aHh (by decide) (by decide),cNl]
 decide +kernel
theorem cNm:aAk (bdB B12) G18.nodes 2=[6]:=by
 rw [aFy (x:=⟨aB4,1,0,⟨#[]⟩,[],⟨#[50]⟩,0,[]⟩) rfl,bAx,if_neg (by decide)]
 show List.map (λx:Rat=>x*aN1 ⟨#[50]⟩) ((aKx (bdB B12) G18.nodes 2)[((1:Nat):Int).toNat]?.getD [])=[6]
 rw [aHh (by decide) (by decide),cNd,show (⟨#[50]⟩:ByteArray)=aAw 2 by decide +kernel,aJk]
 decide +kernel
set_option maxHeartbeats 16000000 in
theorem cJd:aAc Tryz.prog GL 33 [] (λr=>r= .bool true):=by
 have hg:aC1 G18=true->aG8 (bdB B12) G18.nodes:=λ_=>aP5 cNc cMb B12 bJn (by decide +kernel)
 have hl:aC1 G18=true->∀j x,G18.nodes[j]? =some x->(((aAk (bdB B12) G18.nodes j).length:Nat):Int)=aA8 x.shape:=λ_=>aFa (aFz cNc cMb B12 bJn (by decide +kernel))
 have h1:=cK7 B12 G18 [1] 3 cMb (by decide) (by decide) (by decide) bJn hg hl
 have h2:=cK7 B12 G18 [] 2 cMb (by decide) (by decide) (by decide) bJn hg hl
 have hlo:aGc B12 G18=6:=by
  show atR (aAk (bdB B12) G18.nodes 2) 0=6
  rw [cNm];rfl
 have ho:cJb (bdB B12) G18.nodes [1]=[[.ro 1 [],.ro 1 [[.str ⟨#[51]⟩]]]]:=by
  show [tcE (bdB B12) G18.nodes 1]=_
  rw [tcE,cNd]
  show [[AV.ro 1 [],AV.ro 1 [[.str (aAw 3)]]]]=_
  rw [show aAw 3=⟨#[51]⟩ by decide +kernel]
 have e1:cJc B12 G18 [1] 3= .tup [.ro 2 [[.ro 1 [],.ro 1 [[.str ⟨#[51]⟩]]]],.str ⟨#[54]⟩,.int .i64 0]:=by
  rw [cJc,if_pos (show cEu G18 [1]=true by decide +kernel),if_pos (show aCt B12 G18.nodes=true by decide +kernel),if_pos (show ((G18.nodes.length:Nat):Int)<=3 by decide),ho,hlo,show aAw 6=⟨#[54]⟩ by decide +kernel]
 have e2:cJc B12 G18 [] 2= .tup [.ro 2 [],.str ⟨#[]⟩,.int .i64 9]:=by
  rw [cJc,if_pos (show cEu G18 []=true by decide +kernel),if_pos (show aCt B12 G18.nodes=true by decide +kernel),if_neg (show ¬((G18.nodes.length:Nat):Int)<=2 by decide)]
 rw [e1] at h1
 rw [e2] at h2
 have a:aLg [.agg [.ro 8 [[.str aGh,.int .i64 0,.int .i64 0,.str ⟨#[119]⟩,.nils,.str ⟨#[]⟩,.int .i64 0,.nils],[.str aMk,.int .i64 0,.int .i64 0,.str ⟨#[]⟩,.nils,.str ⟨#[]⟩,.int .i64 0,.nils],[.str aB4,.int .i64 1,.int .i64 0,.str ⟨#[]⟩,.nils,.str ⟨#[50]⟩,.int .i64 0,.nils]],.int .i64 2]] [.agg G18.cells]:=
  ⟨_,_,rfl,⟨_,rfl,_,_,rfl,⟨_,rfl,_,_,rfl,⟨_,_,rfl,rfl,_,_,rfl,rfl,_,_,rfl,rfl,_,_,rfl,rfl,_,_,rfl,aDa 1,_,_,rfl,rfl,_,_,rfl,rfl,_,_,rfl,aDa 1,rfl⟩,
    _,_,rfl,⟨_,_,rfl,rfl,_,_,rfl,rfl,_,_,rfl,rfl,_,_,rfl,rfl,_,_,rfl,aDa 1,_,_,rfl,rfl,_,_,rfl,rfl,_,_,rfl,aDa 1,rfl⟩,
    _,_,rfl,⟨_,_,rfl,rfl,_,_,rfl,rfl,_,_,rfl,rfl,_,_,rfl,rfl,_,_,rfl,aDa 1,_,_,rfl,rfl,_,_,rfl,rfl,_,_,rfl,aDa 1,rfl⟩,rfl⟩,_,_,rfl,rfl,rfl⟩,rfl⟩
 obtain ⟨y,r,e,a,hr⟩:=a
 cases e
 have h1:=h1.args (xs:=[.agg [.ro 8 [[.str aGh,.int .i64 0,.int .i64 0,.str ⟨#[119]⟩,.nils,.str ⟨#[]⟩,.int .i64 0,.nils],[.str aMk,.int .i64 0,.int .i64 0,.str ⟨#[]⟩,.nils,.str ⟨#[]⟩,.int .i64 0,.nils],[.str aB4,.int .i64 1,.int .i64 0,.str ⟨#[]⟩,.nils,.str ⟨#[50]⟩,.int .i64 0,.nils]],.int .i64 2],.ro 1 [[.int .i64 1]],.ro 3 [[.str ⟨#[119]⟩,.nils,.ro 1 [[.str ⟨#[51]⟩]]]],.int .i64 3])
  ⟨_,_,rfl,a,_,_,rfl,aIv _,_,_,rfl,⟨_,rfl,_,_,rfl,⟨_,_,rfl,rfl,_,_,rfl,aDa 1,_,_,rfl,aIv _,rfl⟩,rfl⟩,_,_,rfl,rfl,rfl⟩
 have h2:=h2.args (xs:=[.agg [.ro 8 [[.str aGh,.int .i64 0,.int .i64 0,.str ⟨#[119]⟩,.nils,.str ⟨#[]⟩,.int .i64 0,.nils],[.str aMk,.int .i64 0,.int .i64 0,.str ⟨#[]⟩,.nils,.str ⟨#[]⟩,.int .i64 0,.nils],[.str aB4,.int .i64 1,.int .i64 0,.str ⟨#[]⟩,.nils,.str ⟨#[50]⟩,.int .i64 0,.nils]],.int .i64 2],.ro 1 [],.ro 3 [[.str ⟨#[119]⟩,.nils,.ro 1 [[.str ⟨#[51]⟩]]]],.int .i64 2])
  ⟨_,_,rfl,a,_,_,rfl,aIv _,_,_,rfl,⟨_,rfl,_,_,rfl,⟨_,_,rfl,rfl,_,_,rfl,aDa 1,_,_,rfl,aIv _,rfl⟩,rfl⟩,_,_,rfl,rfl,rfl⟩
 clear hg hl hlo ho e1 e2 a
 refine vgo cL5 Tryz.func33 ?_
 repeat' first|refine sV ⟨?_⟩|refine sq (λh=>⟨?_⟩) λh=>⟨?_⟩|fail
 all_goals (conv=>whnf)
 all_goals rfl
end Go.V
