/-
  Lemmas (part 22) for: the statement.
-/
import Derived.Test.YtphnnbfgiomaoaaGreatDoorFive12
import Derived.Test.YtphnnbfgiomaoaaGreatDoorFive21
set_option linter.all false
namespace Go.V
open Go.N Go.Proofs
set_option maxRecDepth 20000
def cVf:Tab:=[(24,i24),(37,i37),(42,i42),(3,i3),(38,i38),(43,i43),(4,i4),(28,i28),(22,i22),(34,i34),(27,i27),(46,i46),(40,i40)]
theorem cTw:TOK Tryz.prog cVf:=⟨K24,⟨K37,⟨K42,⟨K3,⟨K38,⟨K43,⟨K4,⟨K28,⟨K22,⟨K34,⟨K27,⟨K46,⟨K40,trivial⟩⟩⟩⟩⟩⟩⟩⟩⟩⟩⟩⟩⟩
open Classical in
theorem cT0 {l:List Nd}{p:Int}{bs:List Bd}(hl:l.length<=40) (hs:∀x∈l,x.Sm) (hbl:bs.length<=12) (hbs:∀b∈bs,b.Sm) (hC:aP4 l bs<=400):
 aAc Tryz.prog GL 31 [.agg [.ro 8 (aAv l),.int .i64 p]] (λy=>y= .tup [.agg [.ro 8 [],.int .i64 0],.ro 1 [],.int .i64 1])\/
 ∃(pl pl2:List Int) (F:List Nd) (A B:List (List AV)) (q e:Int),
  aAc Tryz.prog GL 31 [.agg [.ro 8 (aAv l),.int .i64 p]] (λy=>y= .tup [.agg [.ro 8 (aAv F),.int .i64 q],.ro 1 (aAh pl),.int .i64 0])/\
  aAc Tryz.prog GL 31 [.agg [.ro 8 (aAv F),.int .i64 q]] (λy=>y= .tup [.agg [.ro 8 (aAv F),.int .i64 q],.ro 1 (aAh pl2),.int .i64 0])/\
  aAc Tryz.prog GL 19 [.agg [.ro 8 (aAv F),.int .i64 q]] (λy=>y= .bool true)/\
  aAc Tryz.prog GL 25 [.agg [.ro 8 (aAv l),.int .i64 p],.ro 3 (aA5 bs)] (λy=>y= .tup [.ro 2 A,.int .i64 e])/\
  aAc Tryz.prog GL 25 [.agg [.ro 8 (aAv F),.int .i64 q],.ro 3 (aA5 bs)] (λy=>y= .tup [.ro 2 B,.int .i64 e])/\
  aAc Tryz.prog GL 32 [.agg [.ro 8 (aAv F),.int .i64 q],.agg [.ro 8 (aAv F),.int .i64 q]] (λy=>y= .bool true)/\
  pl.length=l.length/\((e=10/\A.length=0/\B.length=0)\/(e=0/\B.length=F.length/\A.length=pl.length))/\A.length<=40/\
  ∀i,i<A.length->∃(m:Nat) (s:List Int) (r:List Rat),(aAh pl)[i]? =some [.int .i64 (m:Nat)]/\m<B.length/\VT s r/\A[i]? =some [.ro 1 (aAh s),.ro 1 (aAj r)]/\B[m]? =some [.ro 1 (aAh s),.ro 1 (aAj r)]:=by
 have hGi:=λh=>aFz (g:=⟨l,p⟩) h hs bs hbs hC
 dsimp only at hGi
 have hm:=cPy ⟨l,p⟩ hs (by dsimp only;omega)
 have he:=aZd bs ⟨l,p⟩ hs (by dsimp only;omega) (by omega) hbs (λh=>aFm (hGi h))
 cases hg:aC1 ⟨l,p⟩
 · rw [hg,if_neg (by simp)] at hm
   exact .inl hm
 right
 rw [hg,if_pos rfl] at hm he
 have G:=hGi hg
 have hvt:∀j x,l[j]? =some x->VT x.shape (aAk (bdB bs) l j):=λj x hx=>(aL2 G hx).1
 have E:=cOz hg
 have hln:=cN2 (l:=l) l.length (Nat.le_refl _)
 have hsm2:=cP1 hs l.length
 have hok:=cTl hg
 have hag:=cU0 hok
 have hbd:=cHh bs
 have hFg:aG8 (bdB bs) (cNv ⟨l,p⟩).1.nodes:=cHj E hg hbd (aFm G)
 have hal:aCt bs (cNv ⟨l,p⟩).1.nodes=aCt bs l:=cG1 E (λ_ _ _ _=>rfl) bs
 have hFl:(cNv ⟨l,p⟩).1.nodes.length<=40:=by
  have:(cNs l l.length).2.length<=l.length:=hln.2
  exact Nat.le_trans this hl
 have hm2:=cPy (cNv ⟨l,p⟩).1 hsm2 (by omega)
 have hR:=bE1 (cNv ⟨l,p⟩).1 hsm2 (by omega)
 have he2:=aZd bs (cNv ⟨l,p⟩).1 hsm2 (by omega) (by omega) hbs (λ_=>hFg)
 have heq:=bDm GL (cNv ⟨l,p⟩).1 (cNv ⟨l,p⟩).1 hsm2 hsm2 (by omega)
 rw [decide_eq_true rfl] at heq
 rw [hok,if_pos rfl,hag] at hm2
 rw [hok,if_pos rfl,hal] at he2
 rw [hok] at hR
 have hat:∀i,i<l.length->∃m:Nat,atZ (cNs l l.length).1 (i:Nat)=(m:Nat)/\m<(cNv ⟨l,p⟩).1.nodes.length/\tcE (bdB bs) (cNv ⟨l,p⟩).1.nodes m=tcE (bdB bs) l i:=λi h=>by
  obtain ⟨m,e1,e2⟩:=E.at_ i _ (List.getElem?_eq_getElem h) rfl
  obtain ⟨e3,e4⟩:=cHs (g:=⟨l,p⟩) (bd:=bdB bs) E hg hbd h rfl e1
  exact ⟨m,e1,e3,e4⟩
 have hpl:(cNv ⟨l,p⟩).2.length=l.length:=hln.1
 dsimp only at he
 cases hA:aCt bs l
 · rw [hA,if_neg (by simp)] at he he2
   exact ⟨_,_,_,[],[],_,10,hm,hm2,hR,he,he2,heq,hpl,.inl ⟨rfl,rfl,rfl⟩,Nat.zero_le _,λi h=>absurd h (Nat.not_lt_zero _)⟩
 · rw [hA,if_pos rfl] at he he2
   refine ⟨_,_,_,_,_,_,0,hm,hm2,hR,he,he2,heq,hpl,.inr ⟨rfl,by rw [aC0],by rw [aC0,hpl]⟩,by rw [aC0];omega,λi h=>?_⟩
   rw [aC0] at h
   obtain ⟨m,e1,e2,e3⟩:=hat i h
   have hpi:i<(cNv ⟨l,p⟩).2.length:=by rw [hpl];exact h
   refine ⟨m,_,_,?_,by rw [aC0];exact e2,hvt i _ (List.getElem?_eq_getElem h),by rw [aD1 h,tcE,aAp h],by rw [aD1 e2,e3,tcE,aAp h]⟩
   rw [aE6 hpi,<-e1]
   exact congrArg (λz=>some [AV.int .i64 z]) (cEs hpi).symm
set_option maxHeartbeats 8000000 in
open Classical in
theorem cVi (g:Gr) (bs:List Bd) (hbb:bs.length*64<=140737488351232):aAc Tryz.prog GL 9 [.agg g.cells,.ro 3 (aA5 bs)] (λr=>r= .bool true):=by
 have haw:=cVz
 obtain ⟨l,p⟩:=g
 show aAc _ _ _ [.agg [.ro 8 (aAv l),.int .i64 p],.ro 3 (aA5 bs)] _
 have hsm:=aK5 GL ⟨l,p⟩
 have hsb:=aK6 bs
 have hlr:=rowN_length l
 have hbr:=aBk bs
 replace hsm:aAc Tryz.prog GL 14 [.agg [.ro 8 (aAv l),.int .i64 p]] (λy=>y= .bool (aFh ⟨l,p⟩)):=hsm
 refine vgo cTw Tryz.func9 ?_
 repeat' first|refine sV ⟨?_⟩|refine sq (λh=>⟨?_⟩) λh=>⟨?_⟩|fail
 refine ⟨[1,2,5,19,20,21],[0],λm st=>∃i:Nat,i<=bs.length/\m=bs.length - i/\
  ((i=0/\st=⟨[(1,.ro 3 (aA5 bs)),(2,.bptr 0 0),(5,.nils),(19,.ro 3 (aA5 bs)),(20,.int .i64 ((aA5 bs).length:Nat)),(21,.int .i64 (i:Nat))],[.box 24 [.ro 8 (aAv l),.int .i64 p]]⟩)\/
  (0<i/\st=⟨[(1,.ro 3 (aA5 bs)),(2,.bptr 0 0),(5,.own 1 0 (aA5 (bs.take i)).length),(19,.ro 3 (aA5 bs)),(20,.int .i64 ((aA5 bs).length:Nat)),(21,.int .i64 (i:Nat))],[.box 24 [.ro 8 (aAv l),.int .i64 p],.row false 43 3 (aA5 (bs.take i))]⟩)),rfl,⟨bs.length,0,by omega,rfl,.inl ⟨rfl,rfl⟩⟩,?_⟩
 rintro m _ ⟨i,hi,hm,hst⟩
 have htl:(aA5 (bs.take i)).length=i:=by rw [aBk,List.length_take];omega
 rcases Nat.lt_or_ge i bs.length with hil|hge
 · have g:=aDs hil
   have hsn:=aKj hil
   have hone:i=0->aA5 (bs.take (i+1))=[bs[i].cells]:=λh=>by subst h;rw [aKj hil];simp [aA5]
   generalize bs[i]=b at g hsn hone
   obtain ⟨bn,bsh,bda⟩:=b
   rcases hst with ⟨rfl,rfl⟩|⟨h0,rfl⟩
   · have hone:=hone rfl
     repeat' first|refine sV ⟨?_⟩|refine sq (λh=>⟨?_⟩) λh=>⟨?_⟩|fail
     conv=>whnf
     refine ⟨Nat.le_of_ble_eq_true rfl,λh=>Nat.succ_ne_zero _ (congrArg List.length h),?_⟩
     repeat' first|refine sV ⟨?_⟩|refine sq (λh=>⟨?_⟩) λh=>⟨?_⟩|fail
     all_goals exact ⟨[0,3],bs.length - (0+1),rfl,by omega,0+1,by omega,rfl,.inr ⟨by omega,Eq.trans rfl (congrArg (λz:List (List AV)=>(⟨[(1,.ro 3 (aA5 bs)),(2,.bptr 0 0),(5,.own 1 0 z.length),(19,.ro 3 (aA5 bs)),(20,.int .i64 ((aA5 bs).length:Nat)),(21,.int .i64 ((0+1:Nat):Int))],[.box 24 [.ro 8 (aAv l),.int .i64 p],.row false 43 3 z]⟩:St)) hone.symm)⟩⟩
   · repeat' first|refine sV ⟨?_⟩|refine sq (λh=>⟨?_⟩) λh=>⟨?_⟩|fail
     refine ⟨Nat.le_refl _,(show ((aA5 (bs.take i)).length+1)*64<=140737488355328 by omega),_,hsn,?_⟩
     repeat' first|refine sV ⟨?_⟩|refine sq (λh=>⟨?_⟩) λh=>⟨?_⟩|fail
     all_goals exact ⟨[0,4],bs.length - (i+1),rfl,by omega,i+1,by omega,rfl,.inr ⟨by omega,rfl⟩⟩
 · have e:bs.take i=bs:=List.take_of_length_le (by omega)
   rcases hst with ⟨h0,rfl⟩|⟨h0,rfl⟩
   · have hb0:aA5 bs=[]:=List.length_eq_zero_iff.1 (by omega)
     rw [hb0] at hsb
     cases hS:aFh ⟨l,p⟩
     · rw [hS] at hsm
       repeat' first|refine sV ⟨?_⟩|refine sq (λh=>⟨?_⟩) λh=>⟨?_⟩|fail
       all_goals (conv=>whnf)
       all_goals rfl
     rw [hS] at hsm
     simp only [aFh,Bool.and_eq_true,decide_eq_true_eq,List.all_eq_true] at hS
     obtain ⟨hl,hs⟩:=hS
     have hs:=λx hx=>aMn (hs x hx)
     cases hB:aGk bs
     · rw [hB] at hsb
       repeat' first|refine sV ⟨?_⟩|refine sq (λh=>⟨?_⟩) λh=>⟨?_⟩|fail
       all_goals (conv=>whnf)
       all_goals rfl
     rw [hB] at hsb
     obtain ⟨hbl,hbs⟩:=aKl hB
     have hcm:=bEv l p bs (by omega) hs (by omega) hbs
     have hK:=@cT0 l p bs (by omega) hs (by omega) hbs
     rw [hb0] at hcm
     by_cases hC:aP4 l bs<=400
     case neg=>
      rw [decide_eq_false hC] at hcm
      repeat' first|refine sV ⟨?_⟩|refine sq (λh=>⟨?_⟩) λh=>⟨?_⟩|fail
      all_goals (conv=>whnf)
      all_goals rfl
     rw [decide_eq_true hC] at hcm
     rcases hK hC with hm1|⟨pl,pl2,F,A,B,q,e,hm1,hm2,hR,he,he2,heq,hpl,hcase,hA40,hgt⟩
     · repeat' first|refine sV ⟨?_⟩|refine sq (λh=>⟨?_⟩) λh=>⟨?_⟩|fail
       all_goals (conv=>whnf)
       all_goals rfl
     have hFr:=rowN_length F
     have hplr:=rowZ_length pl
     rcases hcase with ⟨rfl,hA0,hB0⟩|⟨rfl,hB1,hA1⟩
     · repeat' first|refine sV ⟨?_⟩|refine sq (λh=>⟨?_⟩) λh=>⟨?_⟩|fail
       refine ⟨[9,14,16,122,123],[],λm st=>∃i:Nat,i<=A.length/\m=A.length - i/\
        st=⟨[(9,.ro 1 (aAh pl)),(14,.ro 2 A),(16,.ro 2 B),(122,.int .i64 (A.length:Nat)),(123,.int .i64 (i:Nat))],[]⟩,rfl,⟨A.length,0,by omega,rfl,rfl⟩,?_⟩
       rintro m _ ⟨i,hi,hm,rfl⟩
       rcases Nat.lt_or_ge i A.length with hil|hge
       · omega
       · repeat' first|refine sV ⟨?_⟩|refine sq (λh=>⟨?_⟩) λh=>⟨?_⟩|fail
         all_goals (conv=>whnf)
         all_goals rfl
     · repeat' first|refine sV ⟨?_⟩|refine sq (λh=>⟨?_⟩) λh=>⟨?_⟩|fail
       refine ⟨[9,14,16,122,123],[],λm st=>∃i:Nat,i<=A.length/\m=A.length - i/\
        st=⟨[(9,.ro 1 (aAh pl)),(14,.ro 2 A),(16,.ro 2 B),(122,.int .i64 (A.length:Nat)),(123,.int .i64 (i:Nat))],[]⟩,rfl,⟨A.length,0,by omega,rfl,rfl⟩,?_⟩
       rintro m _ ⟨i,hi,hm,rfl⟩
       rcases Nat.lt_or_ge i A.length with hil|hge
       · obtain ⟨mm,sh,r,gp,hmB,hvt,gA,gB⟩:=hgt i hil
         have hE:=aK3 sh sh (r.map aAw) (r.map aAw) (by have:=hvt.sl;omega) (by have:=hvt.sl;omega) (by rw [List.length_map];have:=hvt.vl;omega)
         rw [decide_eq_true rfl,decide_eq_true rfl,Bool.and_true] at hE
         unfold aEv at hE
         unfold aAj at gA gB
         repeat' first|refine sV ⟨?_⟩|refine sq (λh=>⟨?_⟩) λh=>⟨?_⟩|fail
         refine ⟨by decide +kernel,[0,0,3,7,15,31,63,63,255,511,63,1087,4095,8191,16383,32767,32767,131071,262143,32767,32767,32767,3178495,7372799,16285695,33062911,67108863,134217727,268435455],by decide +kernel,?_⟩
         repeat' first|refine sV ⟨?_⟩|refine sq (λh=>⟨?_⟩) λh=>⟨?_⟩|fail
         all_goals exact ⟨[],A.length - (i+1),rfl,by omega,i+1,by omega,rfl,rfl⟩
       · repeat' first|refine sV ⟨?_⟩|refine sq (λh=>⟨?_⟩) λh=>⟨?_⟩|fail
         all_goals (conv=>whnf)
         all_goals rfl
   · rw [e]
     rw [aW2 (aA5 bs) rfl] at hsb
     cases hS:aFh ⟨l,p⟩
     · rw [hS] at hsm
       repeat' first|refine sV ⟨?_⟩|refine sq (λh=>⟨?_⟩) λh=>⟨?_⟩|fail
       all_goals (conv=>whnf)
       all_goals rfl
     rw [hS] at hsm
     simp only [aFh,Bool.and_eq_true,decide_eq_true_eq,List.all_eq_true] at hS
     obtain ⟨hl,hs⟩:=hS
     have hs:=λx hx=>aMn (hs x hx)
     cases hB:aGk bs
     · rw [hB] at hsb
       repeat' first|refine sV ⟨?_⟩|refine sq (λh=>⟨?_⟩) λh=>⟨?_⟩|fail
       all_goals (conv=>whnf)
       all_goals rfl
     rw [hB] at hsb
     obtain ⟨hbl,hbs⟩:=aKl hB
     have hcm:=bEv l p bs (by omega) hs (by omega) hbs
     have hK:=@cT0 l p bs (by omega) hs (by omega) hbs
     rw [aW2 (aA5 bs) rfl] at hcm
     by_cases hC:aP4 l bs<=400
     case neg=>
      rw [decide_eq_false hC] at hcm
      repeat' first|refine sV ⟨?_⟩|refine sq (λh=>⟨?_⟩) λh=>⟨?_⟩|fail
      all_goals (conv=>whnf)
      all_goals rfl
     rw [decide_eq_true hC] at hcm
     rcases hK hC with hm1|⟨pl,pl2,F,A,B,q,e,hm1,hm2,hR,he,he2,heq,hpl,hcase,hA40,hgt⟩
     · repeat' first|refine sV ⟨?_⟩|refine sq (λh=>⟨?_⟩) λh=>⟨?_⟩|fail
       all_goals (conv=>whnf)
       all_goals rfl
     have hFr:=rowN_length F
     have hplr:=rowZ_length pl
     rcases hcase with ⟨rfl,hA0,hB0⟩|⟨rfl,hB1,hA1⟩
     · repeat' first|refine sV ⟨?_⟩|refine sq (λh=>⟨?_⟩) λh=>⟨?_⟩|fail
       refine ⟨[9,14,16,122,123],[],λm st=>∃i:Nat,i<=A.length/\m=A.length - i/\
        st=⟨[(9,.ro 1 (aAh pl)),(14,.ro 2 A),(16,.ro 2 B),(122,.int .i64 (A.length:Nat)),(123,.int .i64 (i:Nat))],[]⟩,rfl,⟨A.length,0,by omega,rfl,rfl⟩,?_⟩
       rintro m _ ⟨i,hi,hm,rfl⟩
       rcases Nat.lt_or_ge i A.length with hil|hge
       · omega
       · repeat' first|refine sV ⟨?_⟩|refine sq (λh=>⟨?_⟩) λh=>⟨?_⟩|fail
         all_goals (conv=>whnf)
         all_goals rfl
     · repeat' first|refine sV ⟨?_⟩|refine sq (λh=>⟨?_⟩) λh=>⟨?_⟩|fail
       refine ⟨[9,14,16,122,123],[],λm st=>∃i:Nat,i<=A.length/\m=A.length - i/\
        st=⟨[(9,.ro 1 (aAh pl)),(14,.ro 2 A),(16,.ro 2 B),(122,.int .i64 (A.length:Nat)),(123,.int .i64 (i:Nat))],[]⟩,rfl,⟨A.length,0,by omega,rfl,rfl⟩,?_⟩
       rintro m _ ⟨i,hi,hm,rfl⟩
       rcases Nat.lt_or_ge i A.length with hil|hge
       · obtain ⟨mm,sh,r,gp,hmB,hvt,gA,gB⟩:=hgt i hil
         have hE:=aK3 sh sh (r.map aAw) (r.map aAw) (by have:=hvt.sl;omega) (by have:=hvt.sl;omega) (by rw [List.length_map];have:=hvt.vl;omega)
         rw [decide_eq_true rfl,decide_eq_true rfl,Bool.and_true] at hE
         unfold aEv at hE
         unfold aAj at gA gB
         repeat' first|refine sV ⟨?_⟩|refine sq (λh=>⟨?_⟩) λh=>⟨?_⟩|fail
         refine ⟨by decide +kernel,[0,0,3,7,15,31,63,63,255,511,63,1087,4095,8191,16383,32767,32767,131071,262143,32767,32767,32767,3178495,7372799,16285695,33062911,67108863,134217727,268435455],by decide +kernel,?_⟩
         repeat' first|refine sV ⟨?_⟩|refine sq (λh=>⟨?_⟩) λh=>⟨?_⟩|fail
         all_goals exact ⟨[],A.length - (i+1),rfl,by omega,i+1,by omega,rfl,rfl⟩
       · repeat' first|refine sV ⟨?_⟩|refine sq (λh=>⟨?_⟩) λh=>⟨?_⟩|fail
         all_goals (conv=>whnf)
         all_goals rfl
end Go.V
