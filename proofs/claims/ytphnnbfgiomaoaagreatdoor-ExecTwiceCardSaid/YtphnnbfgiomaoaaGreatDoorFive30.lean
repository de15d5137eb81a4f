/-
  Lemmas (part 30) for: the statement.
-/
import Derived.Test.YtphnnbfgiomaoaaGreatDoorFive7
import Derived.Test.YtphnnbfgiomaoaaGreatDoorFive12
import Derived.Test.YtphnnbfgiomaoaaGreatDoorFive13
import Derived.Test.YtphnnbfgiomaoaaGreatDoorFive21
import Derived.Test.YtphnnbfgiomaoaaGreatDoorFive28
import Derived.Test.YtphnnbfgiomaoaaGreatDoorFive29
set_option linter.all false
namespace Go.V
open Go.N Go.Proofs
set_option maxRecDepth 20000
def cWq:Tab:=[(24,i24),(27,i27),(3,i3),(28,i28)]
theorem cS7:TOK Tryz.prog cWq:=⟨K24,⟨K27,⟨K3,⟨K28,trivial⟩⟩⟩⟩
set_option maxHeartbeats 16000000 in
theorem cOs {bd:Nd->List Rat}(hbd:∀x y:Nd,x.name=y.name->x.shape=y.shape->bd x=bd y) (g:Gr) (keep:List Int) (hs:∀x∈g.nodes,x.Sm) (hl:g.nodes.length<=1000) (hkl:keep.length<=1000)
 (hG:aC1 g=true->aG8 bd g.nodes) (hto:aC1 g=true->cUn bd g.nodes):
 aAc Tryz.prog GL 34 [.agg g.cells,.ro 1 (aAh keep)]
  (λy=>y=if cEu g keep=true then .tup [.agg (cNu bd g keep).1.cells,.ro 1 (aAh (cNu bd g keep).2),.int .i64 0] else .tup [.agg [.ro 8 [],.int .i64 0],.ro 1 [],.int .i64 1]):=by
 have hnd:=cG7 g keep hs hl hkl
 have hf:=bDd bd g hs hl hG
 have hkr:=rowZ_length keep
 refine aAc.taken ?_
 cases hok:cEu g keep
 · rw [hok,if_neg (by simp)] at hnd
   rw [if_neg (by simp)]
   clear hf
   obtain ⟨l,p⟩:=g
   refine vgo cS7 Tryz.func34 ?_
   repeat' first|refine sV ⟨?_⟩|refine sq (λh=>⟨?_⟩) λh=>⟨?_⟩|fail
   all_goals (conv=>whnf)
   all_goals exact ⟨_,cHx (aFo (show aC7 .nils (.ro 8 []) from ⟨8,rfl⟩) rfl) (show aC7 .nils (.ro 1 []) from ⟨1,rfl⟩) rfl,rfl⟩
 rw [hok,if_pos rfl] at hnd
 rw [if_pos rfl]
 have hg:aC1 g=true:=by simp only [cEu,Bool.and_eq_true] at hok;exact hok.1
 have hkk:cEx g keep=true:=by simp only [cEu,Bool.and_eq_true] at hok;exact hok.2
 have hto:=hto hg
 obtain ⟨s1,s2,s3⟩:=cOc hto hs keep
 obtain ⟨hF,hM,hFl,hMl,hpll⟩:=cWa hg hto
 have hkM:=cTn hbd hg hto hkk
 have hm:aAc Tryz.prog GL 31 [.agg (bDr bd g).cells] (λy=>y=if aC1 (bDr bd g)=true then .tup [.agg (cNy bd g).1.cells,.ro 1 (aAh (cNy bd g).2),.int .i64 0] else .tup [.agg [.ro 8 [],.int .i64 0],.ro 1 [],.int .i64 1]):=cPy (bDr bd g) s1 (by rw [hFl];exact hl)
 have hp:=cGg (cNy bd g).1 (keep.map (atZ (cNy bd g).2)) s2 (by omega) (by rw [List.length_map];exact hkl)
 rw [hg,if_pos rfl] at hf
 rw [hF,if_pos rfl] at hm
 rw [show cEu (cNy bd g).1 (keep.map (atZ (cNy bd g).2))=true by rw [cEu,hM,hkM];rfl,if_pos rfl] at hp
 have hpos:=(aMd hM).1
 have hH:=(aMd (cOb hbd hg (hG hg) hto hkk).ok).1
 have hPl:=cEt (l:=(cNy bd g).1.nodes) (N:=NB (cNy bd g).1 (keep.map (atZ (cNy bd g).2))) (Nat.le_refl _)
 have hkeep:∀i (h:i<keep.length),∃k:Nat,keep[i]=(k:Nat)/\k<(cNy bd g).2.length:=λi h=>by
  obtain ⟨k,h1,h2⟩:=cE7 hkk (List.getElem_mem h)
  exact ⟨k,h1,by omega⟩
 have hkept:∀i (h:i<(keep.map (atZ (cNy bd g).2)).length),∃k:Nat,(keep.map (atZ (cNy bd g).2))[i]=(k:Nat)/\k<(cNy bd g).1.nodes.length:=λi h=>cE7 hkM (List.getElem_mem h)
 simp only [cNu] at hH ⊢
 clear hto hG hok hkk hM hkM hF s1 s2 s3 hpll hFl
 replace hPl:(cEz (cNy bd g).1 (NB (cNy bd g).1 (keep.map (atZ (cNy bd g).2)))).2.length=(cNy bd g).1.nodes.length:=hPl.1
 generalize bDr bd g=F at hf hm
 generalize cNy bd g=mm0 at hm hp hpos hH hkeep hkept hPl hMl ⊢
 obtain ⟨⟨ml,mq⟩,pl⟩:=mm0
 generalize cEz ((⟨ml,mq⟩:Gr),pl).1 (NB ((⟨ml,mq⟩:Gr),pl).1 (keep.map (atZ ((⟨ml,mq⟩:Gr),pl).2)))=P at hp hH hPl ⊢
 obtain ⟨⟨hl2,hq⟩,pl2⟩:=P
 obtain ⟨fl,fq⟩:=F
 obtain ⟨l,p⟩:=g
 dsimp only at hf hm hp hpos hH hkeep hkept hPl hMl hl hnd ⊢
 generalize fB l.length (NB ⟨l,p⟩ keep)=fb at hnd
 obtain ⟨c,cs,hc⟩:∃c cs,aAv hl2=c::cs:=List.exists_cons_of_length_pos (by rw [rowN_length];omega)
 obtain ⟨d,ds,hd⟩:∃d ds,aAh pl2=d::ds:=List.exists_cons_of_length_pos (by rw [rowZ_length];omega)
 have ecl:(⟨hl2,hq⟩:Gr).cells=[.ro 8 (c::cs),.int .i64 hq]:=by rw [<- hc];rfl
 rw [ecl,hd] at hp
 rw [ecl]
 rw [<- hPl] at hkept
 replace hnd:aAc Tryz.prog GL 64 [.agg [.ro 8 (aAv l),.int .i64 p],.ro 1 (aAh keep)] (λy=>y= .tup [.ro 1 fb,.int .i64 0]):=hnd
 replace hf:aAc Tryz.prog GL 65 [.agg [.ro 8 (aAv l),.int .i64 p]] (λy=>y= .tup [.agg [.ro 8 (aAv fl),.int .i64 fq],.int .i64 0]):=hf
 replace hm:aAc Tryz.prog GL 31 [.agg [.ro 8 (aAv fl),.int .i64 fq]] (λy=>y= .tup [.agg [.ro 8 (aAv ml),.int .i64 mq],.ro 1 (aAh pl),.int .i64 0]):=hm
 replace hp:aAc Tryz.prog GL 66 [.agg [.ro 8 (aAv ml),.int .i64 mq],.ro 1 (aAh (keep.map (atZ pl)))] (λy=>y= .tup [.agg [.ro 8 (c::cs),.int .i64 hq],.ro 1 (d::ds),.int .i64 0]):=hp
 show aAc _ _ _ [.agg [.ro 8 (aAv l),.int .i64 p],.ro 1 (aAh keep)] _
 refine vgo cS7 Tryz.func34 ?_
 repeat' first|refine sV ⟨?_⟩|refine sq (λh=>⟨?_⟩) λh=>⟨?_⟩|fail
 refine ⟨[4,11,12,14,44,45,46],[1,3],λm st=>∃i:Nat,i<=keep.length/\m=keep.length - i/\
  ((i=0/\st=⟨[(4,.bptr 0 0),(11,.bptr 1 0),(12,.ro 1 (aAh pl)),(14,.nils),(44,.ro 1 (aAh keep)),(45,.int .i64 ((aAh keep).length:Nat)),(46,.int .i64 (i:Nat))],
     [.box 24 [.nils,.int .i64 0],.box 24 [.ro 8 (aAv ml),.int .i64 mq]]⟩)\/
   (0<i/\st=⟨[(4,.bptr 0 0),(11,.bptr 1 0),(12,.ro 1 (aAh pl)),(14,.own 2 0 (aAh ((keep.take i).map (atZ pl))).length),(44,.ro 1 (aAh keep)),(45,.int .i64 ((aAh keep).length:Nat)),(46,.int .i64 (i:Nat))],
     [.box 24 [.nils,.int .i64 0],.box 24 [.ro 8 (aAv ml),.int .i64 mq],.row false 3 1 (aAh ((keep.take i).map (atZ pl)))]⟩)),rfl,⟨keep.length,0,by omega,rfl,.inl ⟨rfl,rfl⟩⟩,?_⟩
 rintro m _ ⟨i,hi,hm',hst⟩
 have htl2:(aAh ((keep.take i).map (atZ pl))).length=i:=by rw [rowZ_length,List.length_map,List.length_take];omega
 rcases Nat.lt_or_ge i keep.length with hil|hge
 · obtain ⟨k,hk,hkp⟩:=hkeep i hil
   have gk:(aAh keep)[i]? =some [.int .i64 (k:Nat)]:=by rw [aE6 hil,hk]
   have gp:(aAh pl)[k]? =some [.int .i64 (atZ pl (k:Nat))]:=by rw [aE6 hkp,cEs hkp]
   have hsn:=cTk (pl:=pl) hil hk
   have hone:i=0->aAh ((keep.take (i+1)).map (atZ pl))=[[.int .i64 (atZ pl (k:Nat))]]:=λh=>by subst h;rw [hsn];rfl
   generalize atZ pl (k:Nat)=v at gp hsn hone
   rcases hst with ⟨rfl,rfl⟩|⟨h0,rfl⟩
   · have hone:=hone rfl
     repeat' first|refine sV ⟨?_⟩|refine sq (λh=>⟨?_⟩) λh=>⟨?_⟩|fail
     conv=>whnf
     refine ⟨Nat.le_of_ble_eq_true rfl,λh=>Nat.succ_ne_zero _ (congrArg List.length h),?_⟩
     repeat' first|refine sV ⟨?_⟩|refine sq (λh=>⟨?_⟩) λh=>⟨?_⟩|fail
     all_goals exact ⟨[0,1,3],keep.length - (0+1),rfl,by omega,0+1,by omega,rfl,.inr ⟨by omega,Eq.trans rfl (congrArg (λz:List (List AV)=>(⟨[(4,.bptr 0 0),(11,.bptr 1 0),(12,.ro 1 (aAh pl)),(14,.own 2 0 z.length),(44,.ro 1 (aAh keep)),(45,.int .i64 ((aAh keep).length:Nat)),(46,.int .i64 ((0+1:Nat):Int))],
      [.box 24 [.nils,.int .i64 0],.box 24 [.ro 8 (aAv ml),.int .i64 mq],.row false 3 1 z]⟩:St)) hone.symm)⟩⟩
   · repeat' first|refine sV ⟨?_⟩|refine sq (λh=>⟨?_⟩) λh=>⟨?_⟩|fail
     refine ⟨Nat.le_refl _,(show ((aAh ((keep.take i).map (atZ pl))).length+1)*8<=140737488355328 by omega),_,hsn,?_⟩
     repeat' first|refine sV ⟨?_⟩|refine sq (λh=>⟨?_⟩) λh=>⟨?_⟩|fail
     all_goals exact ⟨[0,1,4],keep.length - (i+1),rfl,by omega,i+1,by omega,rfl,.inr ⟨by omega,rfl⟩⟩
 · have e1:keep.take i=keep:=List.take_of_length_le (by omega)
   clear hnd hf hm hkeep
   rcases hst with ⟨h0,rfl⟩|⟨h0,rfl⟩
   · have hk0:keep.map (atZ pl)=[]:=by rw [List.length_eq_zero_iff.1 (show keep.length=0 by omega)];rfl
     rw [hk0] at hp ⊢
     replace hp:aAc Tryz.prog GL 66 [.agg [.ro 8 (aAv ml),.int .i64 mq],.ro 1 []] (λy=>y= .tup [.agg [.ro 8 (c::cs),.int .i64 hq],.ro 1 (d::ds),.int .i64 0]):=hp
     repeat' first|refine sV ⟨?_⟩|refine sq (λh=>⟨?_⟩) λh=>⟨?_⟩|fail
     refine ⟨[4,17,20,70,71],[0,2],λm st=>m=0/\st=⟨[(4,.bptr 0 0),(17,.bptr 1 0),(20,.nils),(70,.int .i64 0),(71,.int .i64 0)],[.box 24 [.nils,.int .i64 0],.box 24 [.ro 8 (c::cs),.int .i64 hq]]⟩,rfl,⟨0,rfl,rfl⟩,?_⟩
     rintro m _ ⟨hm,rfl⟩
     repeat' first|refine sV ⟨?_⟩|refine sq (λh=>⟨?_⟩) λh=>⟨?_⟩|fail
     all_goals (conv=>whnf)
     all_goals exact ⟨_,cHx (aFo rfl rfl) (show aC7 .nils (.ro 1 []) from ⟨1,rfl⟩) rfl,rfl⟩
   · rw [e1]
     have hkl2:(keep.map (atZ pl)).length=keep.length:=List.length_map _
     clear htl2 e1
     generalize keep.map (atZ pl)=kept at hp hkept hkl2 ⊢
     rw [aW2 (aAh kept) rfl] at hp
     repeat' first|refine sV ⟨?_⟩|refine sq (λh=>⟨?_⟩) λh=>⟨?_⟩|fail
     refine ⟨[4,17,18,20,69,70,71],[0,2,3],λm st=>∃i:Nat,i<=kept.length/\m=kept.length - i/\
      ((i=0/\st=⟨[(4,.bptr 0 0),(17,.bptr 2 0),(18,.ro 1 (d::ds)),(20,.nils),(69,.own 1 0 (aAh kept).length),(70,.int .i64 ((aAh kept).length:Nat)),(71,.int .i64 (i:Nat))],
         [.box 24 [.nils,.int .i64 0],.row true 3 1 (aAh kept),.box 24 [.ro 8 (c::cs),.int .i64 hq]]⟩)\/
       (0<i/\st=⟨[(4,.bptr 0 0),(17,.bptr 2 0),(18,.ro 1 (d::ds)),(20,.own 3 0 (aAh ((kept.take i).map (atZ pl2))).length),(69,.own 1 0 (aAh kept).length),(70,.int .i64 ((aAh kept).length:Nat)),(71,.int .i64 (i:Nat))],
         [.box 24 [.nils,.int .i64 0],.row true 3 1 (aAh kept),.box 24 [.ro 8 (c::cs),.int .i64 hq],.row false 3 1 (aAh ((kept.take i).map (atZ pl2)))]⟩)),rfl,⟨kept.length,0,by omega,rfl,.inl ⟨rfl,rfl⟩⟩,?_⟩
     rintro m _ ⟨i,hi,hm,hst⟩
     have htl2:(aAh ((kept.take i).map (atZ pl2))).length=i:=by rw [rowZ_length,List.length_map,List.length_take];omega
     have hkr:=rowZ_length kept
     rcases Nat.lt_or_ge i kept.length with hil|hge
     · obtain ⟨k,hk,hkp⟩:=hkept i hil
       have gk:(aAh kept)[0+i]? =some [.int .i64 (k:Nat)]:=by rw [Nat.zero_add,aE6 hil,hk]
       have gp:(d::ds)[k]? =some [.int .i64 (atZ pl2 (k:Nat))]:=by rw [<- hd,aE6 hkp,cEs hkp]
       have hsn:=cTk (pl:=pl2) hil hk
       have hone:i=0->aAh ((kept.take (i+1)).map (atZ pl2))=[[.int .i64 (atZ pl2 (k:Nat))]]:=λh=>by subst h;rw [hsn];rfl
       generalize atZ pl2 (k:Nat)=v at gp hsn hone
       rcases hst with ⟨rfl,rfl⟩|⟨h0,rfl⟩
       · have hone:=hone rfl
         repeat' first|refine sV ⟨?_⟩|refine sq (λh=>⟨?_⟩) λh=>⟨?_⟩|fail
         conv=>whnf
         refine ⟨Nat.le_of_ble_eq_true rfl,λh=>Nat.succ_ne_zero _ (congrArg List.length h),?_⟩
         repeat' first|refine sV ⟨?_⟩|refine sq (λh=>⟨?_⟩) λh=>⟨?_⟩|fail
         all_goals exact ⟨[0,1,2,4],kept.length - (0+1),rfl,by omega,0+1,by omega,rfl,.inr ⟨by omega,Eq.trans rfl (congrArg (λz:List (List AV)=>(⟨[(4,.bptr 0 0),(17,.bptr 2 0),(18,.ro 1 (d::ds)),(20,.own 3 0 z.length),(69,.own 1 0 (aAh kept).length),(70,.int .i64 ((aAh kept).length:Nat)),(71,.int .i64 ((0+1:Nat):Int))],
          [.box 24 [.nils,.int .i64 0],.row true 3 1 (aAh kept),.box 24 [.ro 8 (c::cs),.int .i64 hq],.row false 3 1 z]⟩:St)) hone.symm)⟩⟩
       · repeat' first|refine sV ⟨?_⟩|refine sq (λh=>⟨?_⟩) λh=>⟨?_⟩|fail
         refine ⟨Nat.le_refl _,(show ((aAh ((kept.take i).map (atZ pl2))).length+1)*8<=140737488355328 by omega),_,hsn,?_⟩
         repeat' first|refine sV ⟨?_⟩|refine sq (λh=>⟨?_⟩) λh=>⟨?_⟩|fail
         all_goals exact ⟨[0,1,2,5],kept.length - (i+1),rfl,by omega,i+1,by omega,rfl,.inr ⟨by omega,rfl⟩⟩
     · have e2:kept.take i=kept:=List.take_of_length_le (by omega)
       rcases hst with ⟨h0,rfl⟩|⟨h0,rfl⟩
       · omega
       · rw [e2]
         repeat' first|refine sV ⟨?_⟩|refine sq (λh=>⟨?_⟩) λh=>⟨?_⟩|fail
         all_goals (conv=>whnf)
         all_goals exact ⟨_,cHx (aFo rfl rfl) rfl rfl,rfl⟩
end Go.V
namespace Go.V
open Go.N Go.Proofs
set_option maxRecDepth 20000
end Go.V
namespace Go.V
open Go.N Go.Proofs
set_option maxRecDepth 20000
theorem cN6 {bd:Nd->List Rat}{l:List Nd}{c:Nat}(G:Given bd l c):cUn bd l:=λj x hx=>aL2 G hx
theorem cTs {bd:Nd->List Rat}{l:List Nd}(h:cUn bd l):∀j x,l[j]? =some x->(((aAk bd l j).length:Nat):Int)=aA8 x.shape:=λj x hx=>(h j x hx).1.len
end Go.V
namespace Go.V
open Go.N Go.Proofs
set_option maxRecDepth 20000
def cUi:Tab:=[(24,i24),(4,i4),(27,i27),(3,i3),(37,i37),(42,i42),(38,i38),(43,i43),(28,i28),(46,i46),(40,i40),(9,i9),(22,i22),(34,i34)]
theorem cNz:TOK Tryz.prog cUi:=⟨K24,⟨K4,⟨K27,⟨K3,⟨K37,⟨K42,⟨K38,⟨K43,⟨K28,⟨K46,⟨K40,⟨K9,⟨K22,⟨K34,trivial⟩⟩⟩⟩⟩⟩⟩⟩⟩⟩⟩⟩⟩⟩
set_option maxHeartbeats 8000000 in
open Classical in
theorem cUp (g:Gr) (keep:List Int) (bs:List Bd) (hbb:bs.length*64<=140737488351232):aAc Tryz.prog GL 13 [.agg g.cells,.ro 1 (aAh keep),.ro 3 (aA5 bs)] (λr=>r= .bool true):=by
 have haw:=cJd
 obtain ⟨l,p⟩:=g
 show aAc _ _ _ [.agg [.ro 8 (aAv l),.int .i64 p],.ro 1 (aAh keep),.ro 3 (aA5 bs)] _
 have hsm:=aK5 GL ⟨l,p⟩
 have hrf:=cLa bs hbb
 have hsb:=aK6 bs
 have hlr:=rowN_length l
 have hbr:=aBk bs
 have hkr:=rowZ_length keep
 cases hS:aFh ⟨l,p⟩
 · rw [hS] at hsm
   refine vgo cNz Tryz.func13 ?_
   repeat' first|refine sV ⟨?_⟩|refine sq (λh=>⟨?_⟩) λh=>⟨?_⟩|fail
   refine ⟨by decide +kernel,[0,1,3,7,15,31,63,127,255,511,1023,2047,4095,8191,16383,32767,32767,98303,262143,524287,1048575],by decide +kernel,?_⟩
   repeat' first|refine sV ⟨?_⟩|refine sq (λh=>⟨?_⟩) λh=>⟨?_⟩|fail
   all_goals (conv=>whnf)
   all_goals rfl
 rw [hS] at hsm
 simp only [aFh,Bool.and_eq_true,decide_eq_true_eq,List.all_eq_true] at hS
 obtain ⟨hl,hs⟩:=hS
 have hs:=λx hx=>aMn (hs x hx)
 by_cases hkl:keep.length<=40
 case neg=>
  refine vgo cNz Tryz.func13 ?_
  repeat' first|refine sV ⟨?_⟩|refine sq (λh=>⟨?_⟩) λh=>⟨?_⟩|fail
  refine ⟨by decide +kernel,[0,1,3,7,15,31,63,127,255,511,1023,2047,4095,8191,16383,32767,32767,98303,262143,524287,1048575],by decide +kernel,?_⟩
  repeat' first|refine sV ⟨?_⟩|refine sq (λh=>⟨?_⟩) λh=>⟨?_⟩|fail
  all_goals (conv=>whnf)
  all_goals rfl
 cases hB:aGk bs
 · rw [hB] at hsb
   refine vgo cNz Tryz.func13 ?_
   repeat' first|refine sV ⟨?_⟩|refine sq (λh=>⟨?_⟩) λh=>⟨?_⟩|fail
   refine ⟨by decide +kernel,[0,1,3,7,15,31,63,127,255,511,1023,2047,4095,8191,16383,32767,32767,98303,262143,524287,1048575],by decide +kernel,?_⟩
   repeat' first|refine sV ⟨?_⟩|refine sq (λh=>⟨?_⟩) λh=>⟨?_⟩|fail
   all_goals (conv=>whnf)
   all_goals rfl
 rw [hB] at hsb
 obtain ⟨hbl,hbs⟩:=aKl hB
 have hcm:=bEv l p bs (by omega) hs (by omega) hbs
 by_cases hC:aP4 l bs<=400
 case neg=>
  rw [decide_eq_false hC] at hcm
  refine vgo cNz Tryz.func13 ?_
  repeat' first|refine sV ⟨?_⟩|refine sq (λh=>⟨?_⟩) λh=>⟨?_⟩|fail
  refine ⟨by decide +kernel,[0,1,3,7,15,31,63,127,255,511,1023,2047,4095,8191,16383,32767,32767,98303,262143,524287,1048575],by decide +kernel,?_⟩
  repeat' first|refine sV ⟨?_⟩|refine sq (λh=>⟨?_⟩) λh=>⟨?_⟩|fail
  all_goals (conv=>whnf)
  all_goals rfl
 rw [decide_eq_true hC] at hcm
 have hGi:=λh=>aFz (g:=⟨l,p⟩) h hs bs hbs hC
 dsimp only at hGi
 have hr1:=cK7 bs ⟨l,p⟩ keep 200 hs (by dsimp only;omega) (by omega) (by omega) hbs (λh=>aFm (hGi h)) (λh=>aFa (hGi h))
 cases hok:cEu ⟨l,p⟩ keep
 · rw [cJc,hok,if_neg (by simp)] at hr1
   refine vgo cNz Tryz.func13 ?_
   repeat' first|refine sV ⟨?_⟩|refine sq (λh=>⟨?_⟩) λh=>⟨?_⟩|fail
   refine ⟨by decide +kernel,[0,1,3,7,15,31,63,127,255,511,1023,2047,4095,8191,16383,32767,32767,98303,262143,524287,1048575],by decide +kernel,?_⟩
   repeat' first|refine sV ⟨?_⟩|refine sq (λh=>⟨?_⟩) λh=>⟨?_⟩|fail
   all_goals (conv=>whnf)
   all_goals rfl
 have hg:aC1 ⟨l,p⟩=true:=by simp only [cEu,Bool.and_eq_true] at hok;exact hok.1
 have hk:cEx ⟨l,p⟩ keep=true:=by simp only [cEu,Bool.and_eq_true] at hok;exact hok.2
 have G:=hGi hg
 cases hA:aCt bs l
 · rw [cJc,hok,if_pos rfl] at hr1
   dsimp only at hr1
   rw [hA,if_neg (by simp)] at hr1
   refine vgo cNz Tryz.func13 ?_
   repeat' first|refine sV ⟨?_⟩|refine sq (λh=>⟨?_⟩) λh=>⟨?_⟩|fail
   refine ⟨by decide +kernel,[0,1,3,7,15,31,63,127,255,511,1023,2047,4095,8191,16383,32767,32767,98303,262143,524287,1048575],by decide +kernel,?_⟩
   repeat' first|refine sV ⟨?_⟩|refine sq (λh=>⟨?_⟩) λh=>⟨?_⟩|fail
   all_goals (conv=>whnf)
   all_goals rfl
 have hti:=cOs (cHh bs) ⟨l,p⟩ keep hs (by dsimp only;omega) (by omega) (λh=>aFm (hGi h)) (λh=>cN6 (hGi h))
 rw [hok,if_pos rfl] at hti
 have T:=cOb (g:=⟨l,p⟩) (cHh bs) hg (aFm G) (cN6 G) hk
 have s3:=(cOc (g:=⟨l,p⟩) (cN6 G) hs keep).2.2
 have hru:=cRv T hok (show ((l.length:Nat):Int)<=200 by omega)
 have hsh:=T.short
 have hlen:=T.len
 have hr2:=cK7 bs (cNu (bdB bs) ⟨l,p⟩ keep).1 (cNu (bdB bs) ⟨l,p⟩ keep).2 200 s3 (by dsimp only at hsh;omega) (by omega) (by omega) hbs (λ_=>T.good) (λ_=>cTs T.told)
 rw [hru] at hr2
 rw [cJc,hok,if_pos rfl] at hr1 hr2
 dsimp only at hr1 hr2
 rw [hA,if_pos rfl,if_pos (show ((l.length:Nat):Int)<=200 by omega)] at hr1 hr2
 have hra:=aZd bs ⟨l,p⟩ hs (by dsimp only;omega) (by omega) hbs (λh=>aFm (hGi h))
 rw [hg,if_pos rfl] at hra
 dsimp only at hra
 rw [hA,if_pos rfl] at hra
 have hpos:=(aMd T.ok).1
 clear T s3 hru
 generalize cNu (bdB bs) ⟨l,p⟩ keep=K at hti hr2 hsh hlen hpos
 obtain ⟨⟨hl2,hq⟩,out⟩:=K
 dsimp only at hti hr2 hsh hlen hpos
 have hl2r:=rowN_length hl2
 have hke:=λ{x:Int}=>@cE7 ⟨l,p⟩ keep hk x
 have hsv:=λ{i:Nat} {x:Nd}=>@aL2 (bdB bs) l _ G i x
 have htl:=aC0 (bdB bs) l l.length
 have hol:=cLq (bdB bs) l keep
 have hgt:∀i (h:i<keep.length),∃(k:Nat) (s:List Int) (v:List Rat),keep[i]=(k:Nat)/\k<l.length/\VT s v/\(cJb (bdB bs) l keep)[i]? =some [.ro 1 (aAh s),.ro 1 (aAj v)]/\(aCj (bdB bs) l l.length)[k]? =some [.ro 1 (aAh s),.ro 1 (aAj v)]:=λi h=>by
  obtain ⟨k,e1,e2⟩:=hke (List.getElem_mem h)
  have e3:tcE (bdB bs) l k=[.ro 1 (aAh l[k].shape),.ro 1 (aAj (aAk (bdB bs) l k))]:=by rw [tcE,aAp e2]
  exact ⟨k,_,_,e1,e2,(hsv (List.getElem?_eq_getElem e2)).1,by rw [cJb,List.getElem?_map,List.getElem?_eq_getElem h,e1,Option.map_some,Int.toNat_natCast,e3],by rw [aD1 e2,e3]⟩
 generalize aAw (aGc bs ⟨l,p⟩)=sL at hr1 hr2
 generalize aCj (bdB bs) l l.length=R at hra htl hgt
 generalize cJb (bdB bs) l keep=O at hr1 hr2 hol hgt
 clear hsv hGi G hke
 refine vgo cNz Tryz.func13 ?_
 repeat' first|refine sV ⟨?_⟩|refine sq (λh=>⟨?_⟩) λh=>⟨?_⟩|fail
 refine ⟨by decide +kernel,[0,1,3,7,15,31,63,127,255,511,1023,2047,4095,8191,16383,32767,32767,98303,262143,524287,1048575],by decide +kernel,?_⟩
 repeat' first|refine sV ⟨?_⟩|refine sq (λh=>⟨?_⟩) λh=>⟨?_⟩|fail
 refine ⟨[7,10,15,125,126,127],[],λm st=>∃i:Nat,i<=keep.length/\m=keep.length - i/\
  st=⟨[(7,.ro 2 O),(10,.ro 2 R),(15,.ro 2 O),(125,.ro 1 (aAh keep)),(126,.int .i64 ((aAh keep).length:Nat)),(127,.int .i64 (i:Nat))],[]⟩,rfl,⟨keep.length,0,by omega,rfl,rfl⟩,?_⟩
 rintro m _ ⟨i,hi,hm,rfl⟩
 rcases Nat.lt_or_ge i keep.length with hil|hge
 · obtain ⟨k,sh,v,hk1,hk2,hv,gO,gR⟩:=hgt i hil
   have gk:(aAh keep)[i]? =some [.int .i64 (k:Nat)]:=by rw [aE6 hil,hk1]
   have hE:=aK3 sh sh (v.map aAw) (v.map aAw) (by have:=hv.sl;omega) (by have:=hv.sl;omega) (by rw [List.length_map];have:=hv.vl;omega)
   rw [decide_eq_true rfl,decide_eq_true rfl,Bool.and_true] at hE
   unfold aEv at hE
   unfold aAj at gO gR
   repeat' first|refine sV ⟨?_⟩|refine sq (λh=>⟨?_⟩) λh=>⟨?_⟩|fail
   refine ⟨by decide +kernel,[0,1,3,7,7,23,63,127,255,511,511,2047,4095,511,511,25087,57855,131071,262143,524287,1048575,2097151,2097151,8388607,16777215,2097151,2097151,102760447,236978175,536870911,1073741823,2147483647],by decide +kernel,?_⟩
   repeat' first|refine sV ⟨?_⟩|refine sq (λh=>⟨?_⟩) λh=>⟨?_⟩|fail
   all_goals exact ⟨[],keep.length - (i+1),rfl,by omega,i+1,by omega,rfl,rfl⟩
 · repeat' first|refine sV ⟨?_⟩|refine sq (λh=>⟨?_⟩) λh=>⟨?_⟩|fail
   all_goals (conv=>whnf)
   all_goals rfl
end Go.V
namespace Go.V
open Go.N Go.Proofs
set_option maxRecDepth 20000
def cUk:Tab:=[(24,i24),(4,i4),(27,i27),(3,i3),(37,i37),(42,i42),(38,i38),(43,i43),(28,i28),(22,i22),(34,i34),(9,i9),(46,i46),(40,i40)]
theorem cN0:TOK Tryz.prog cUk:=⟨K24,⟨K4,⟨K27,⟨K3,⟨K37,⟨K42,⟨K38,⟨K43,⟨K28,⟨K22,⟨K34,⟨K9,⟨K46,⟨K40,trivial⟩⟩⟩⟩⟩⟩⟩⟩⟩⟩⟩⟩⟩⟩
set_option maxHeartbeats 8000000 in
open Classical in
theorem cUr (g:Gr) (keep:List Int) (bs:List Bd) (hbb:bs.length*64<=140737488351232):aAc Tryz.prog GL 11 [.agg g.cells,.ro 1 (aAh keep),.ro 3 (aA5 bs)] (λr=>r= .bool true):=by
 have haw:=cJd
 obtain ⟨l,p⟩:=g
 show aAc _ _ _ [.agg [.ro 8 (aAv l),.int .i64 p],.ro 1 (aAh keep),.ro 3 (aA5 bs)] _
 have hsm:=aK5 GL ⟨l,p⟩
 have hrf:=cLa bs hbb
 have hsb:=aK6 bs
 have hlr:=rowN_length l
 have hbr:=aBk bs
 have hkr:=rowZ_length keep
 cases hS:aFh ⟨l,p⟩
 · rw [hS] at hsm
   refine vgo cN0 Tryz.func11 ?_
   repeat' first|refine sV ⟨?_⟩|refine sq (λh=>⟨?_⟩) λh=>⟨?_⟩|fail
   refine ⟨by decide +kernel,[0,1,3,7,15,31,63,127,255,511,1023,2047,4095,8191,16383,32767,32767,98303,262143,524287,1048575],by decide +kernel,?_⟩
   repeat' first|refine sV ⟨?_⟩|refine sq (λh=>⟨?_⟩) λh=>⟨?_⟩|fail
   all_goals (conv=>whnf)
   all_goals rfl
 rw [hS] at hsm
 simp only [aFh,Bool.and_eq_true,decide_eq_true_eq,List.all_eq_true] at hS
 obtain ⟨hl,hs⟩:=hS
 have hs:=λx hx=>aMn (hs x hx)
 by_cases hkl:keep.length<=20
 case neg=>
  refine vgo cN0 Tryz.func11 ?_
  repeat' first|refine sV ⟨?_⟩|refine sq (λh=>⟨?_⟩) λh=>⟨?_⟩|fail
  refine ⟨by decide +kernel,[0,1,3,7,15,31,63,127,255,511,1023,2047,4095,8191,16383,32767,32767,98303,262143,524287,1048575],by decide +kernel,?_⟩
  repeat' first|refine sV ⟨?_⟩|refine sq (λh=>⟨?_⟩) λh=>⟨?_⟩|fail
  all_goals (conv=>whnf)
  all_goals rfl
 cases hB:aGk bs
 · rw [hB] at hsb
   refine vgo cN0 Tryz.func11 ?_
   repeat' first|refine sV ⟨?_⟩|refine sq (λh=>⟨?_⟩) λh=>⟨?_⟩|fail
   refine ⟨by decide +kernel,[0,1,3,7,15,31,63,127,255,511,1023,2047,4095,8191,16383,32767,32767,98303,262143,524287,1048575],by decide +kernel,?_⟩
   repeat' first|refine sV ⟨?_⟩|refine sq (λh=>⟨?_⟩) λh=>⟨?_⟩|fail
   all_goals (conv=>whnf)
   all_goals rfl
 rw [hB] at hsb
 obtain ⟨hbl,hbs⟩:=aKl hB
 have hcm:=bEv l p bs (by omega) hs (by omega) hbs
 by_cases hC:aP4 l bs<=400
 case neg=>
  rw [decide_eq_false hC] at hcm
  refine vgo cN0 Tryz.func11 ?_
  repeat' first|refine sV ⟨?_⟩|refine sq (λh=>⟨?_⟩) λh=>⟨?_⟩|fail
  refine ⟨by decide +kernel,[0,1,3,7,15,31,63,127,255,511,1023,2047,4095,8191,16383,32767,32767,98303,262143,524287,1048575],by decide +kernel,?_⟩
  repeat' first|refine sV ⟨?_⟩|refine sq (λh=>⟨?_⟩) λh=>⟨?_⟩|fail
  all_goals (conv=>whnf)
  all_goals rfl
 rw [decide_eq_true hC] at hcm
 have hGi:=λh=>aFz (g:=⟨l,p⟩) h hs bs hbs hC
 dsimp only at hGi
 have hk2:(keep++keep).length=keep.length+keep.length:=List.length_append
 have hti:=cOs (cHh bs) ⟨l,p⟩ (keep++keep) hs (by dsimp only;omega) (by omega) (λh=>aFm (hGi h)) (λh=>cN6 (hGi h))
 have hsn:aAh (keep++keep)=List.take (aAh keep).length (aAh keep)++aAh keep:=by rw [List.take_length];simp [aAh]
 cases hok:cEu ⟨l,p⟩ (keep++keep)
 · rw [hok,if_neg (by simp)] at hti
   generalize aAh (keep++keep)=r at hti hsn
   rw [aW2 r rfl] at hti
   refine vgo cN0 Tryz.func11 ?_
   repeat' first|refine sV ⟨?_⟩|refine sq (λh=>⟨?_⟩) λh=>⟨?_⟩|fail
   refine ⟨by decide +kernel,[0,1,3,7,15,31,63,127,255,511,1023,2047,4095,8191,16383,32767,32767,98303,262143,524287,1048575],by decide +kernel,?_⟩
   repeat' first|refine sV ⟨?_⟩|refine sq (λh=>⟨?_⟩) λh=>⟨?_⟩|fail
   refine ⟨by decide +kernel,[0,0,0,6,0,30,63,127,255,255,255,0,2559,7167,16383],by decide +kernel,?_⟩
   repeat' first|refine sV ⟨?_⟩|refine sq (λh=>⟨?_⟩) λh=>⟨?_⟩|fail
   conv=>whnf
   refine ⟨Nat.le_refl _,(show (0+(aAh keep).length)*8<=140737488355328 by omega),aAh keep,rfl,?_⟩
   repeat' first|refine sV ⟨?_⟩|refine sq (λh=>⟨?_⟩) λh=>⟨?_⟩|fail
   conv=>whnf
   refine ⟨Nat.le_refl _,(show ((aAh keep).length+(aAh keep).length)*8<=140737488355328 by omega),r,hsn,?_⟩
   repeat' first|refine sV ⟨?_⟩|refine sq (λh=>⟨?_⟩) λh=>⟨?_⟩|fail
   all_goals (conv=>whnf)
   all_goals rfl
 have hg:aC1 ⟨l,p⟩=true:=by simp only [cEu,Bool.and_eq_true] at hok;exact hok.1
 have hk:cEx ⟨l,p⟩ (keep++keep)=true:=by simp only [cEu,Bool.and_eq_true] at hok;exact hok.2
 have G:=hGi hg
 rw [hok,if_pos rfl] at hti
 have T:=cOb (g:=⟨l,p⟩) (cHh bs) hg (aFm G) (cN6 G) hk
 have s3:=(cOc (g:=⟨l,p⟩) (cN6 G) hs (keep++keep)).2.2
 have hru:=cRv T hok (show ((l.length:Nat):Int)<=200 by omega)
 have hsh:=T.short
 have hpos:=(aMd T.ok).1
 have hlen:=T.len
 have hok2:cEu (cNu (bdB bs) ⟨l,p⟩ (keep++keep)).1 (cNu (bdB bs) ⟨l,p⟩ (keep++keep)).2=true:=by rw [cEu,T.ok,T.cEx];rfl
 have T2:=cOb (cHh bs) T.ok T.good T.told T.cEx
 have hti2:=cOs (cHh bs) (cNu (bdB bs) ⟨l,p⟩ (keep++keep)).1 (cNu (bdB bs) ⟨l,p⟩ (keep++keep)).2 s3 (by dsimp only at hsh;omega) (by omega) (λ_=>T.good) (λ_=>T.told)
 have s4:=(cOc T.told s3 (cNu (bdB bs) ⟨l,p⟩ (keep++keep)).2).2.2
 have hru2:=cRv T2 hok2 (show (((cNu (bdB bs) ⟨l,p⟩ (keep++keep)).1.nodes.length:Nat):Int)<=200 by dsimp only at hsh;omega)
 rw [hru] at hru2
 have hsh2:=T2.short
 have hlen2:=T2.len
 rw [hok2,if_pos rfl] at hti2
 have hr1:=cK7 bs _ (cNu (bdB bs) ⟨l,p⟩ (keep++keep)).2 200 s3 (by dsimp only at hsh;omega) (by omega) (by omega) hbs (λ_=>T.good) (λ_=>cTs T.told)
 have hr2:=cK7 bs _ (cNu (bdB bs) (cNu (bdB bs) ⟨l,p⟩ (keep++keep)).1 (cNu (bdB bs) ⟨l,p⟩ (keep++keep)).2).2 200 s4 (by dsimp only at hsh;omega) (by omega) (by omega) hbs (λ_=>T2.good) (λ_=>cTs T2.told)
 rw [hru] at hr1
 rw [hru2] at hr2
 clear T T2 s3 s4 hru hru2 hok2
 generalize cNu (bdB bs) (cNu (bdB bs) ⟨l,p⟩ (keep++keep)).1 (cNu (bdB bs) ⟨l,p⟩ (keep++keep)).2=K2 at hti2 hr2 hsh2 hlen2
 generalize cNu (bdB bs) ⟨l,p⟩ (keep++keep)=K1 at hti hti2 hr1 hsh hpos hlen hsh2 hlen2
 obtain ⟨⟨hl2,hq⟩,out⟩:=K1
 obtain ⟨⟨hl3,hq3⟩,out3⟩:=K2
 dsimp only at hti hti2 hr1 hr2 hsh hpos hlen hsh2 hlen2
 have hl2r:=rowN_length hl2
 have hl3r:=rowN_length hl3
 have hor:=rowZ_length out
 have ho3r:=rowZ_length out3
 have hke:=λ{x:Int}=>@cE7 ⟨l,p⟩ (keep++keep) hk x
 have hsv:=λ{i:Nat} {x:Nd}=>@aL2 (bdB bs) l _ G i x
 have hol:=cLq (bdB bs) l (keep++keep)
 have htw:=λ{i:Nat}=>@cVr (bdB bs) l keep i
 have hgt:∀i (h:i<(keep++keep).length),∃(s:List Int) (v:List Rat),VT s v/\(cJb (bdB bs) l (keep++keep))[i]? =some [.ro 1 (aAh s),.ro 1 (aAj v)]:=λi h=>by
  obtain ⟨k,e1,e2⟩:=hke (List.getElem_mem h)
  have e3:tcE (bdB bs) l k=[.ro 1 (aAh l[k].shape),.ro 1 (aAj (aAk (bdB bs) l k))]:=by rw [tcE,aAp e2]
  exact ⟨_,_,(hsv (List.getElem?_eq_getElem e2)).1,by rw [cJb,List.getElem?_map,List.getElem?_eq_getElem h,e1,Option.map_some,Int.toNat_natCast,e3]⟩
 replace hti:aAc Tryz.prog GL 34 [.agg [.ro 8 (aAv l),.int .i64 p],.ro 1 (aAh (keep++keep))] (λy=>y= .tup [.agg [.ro 8 (aAv hl2),.int .i64 hq],.ro 1 (aAh out),.int .i64 0]):=hti
 replace hti2:aAc Tryz.prog GL 34 [.agg [.ro 8 (aAv hl2),.int .i64 hq],.ro 1 (aAh out)] (λy=>y= .tup [.agg [.ro 8 (aAv hl3),.int .i64 hq3],.ro 1 (aAh out3),.int .i64 0]):=hti2
 rw [cJc,hok,if_pos rfl] at hr1 hr2
 dsimp only at hr1 hr2
 clear hGi hke hsv hk
 replace hr1:aAc Tryz.prog GL 37 [.agg [.ro 8 (aAv hl2),.int .i64 hq],.ro 1 (aAh out),.ro 3 (aA5 bs),.int .i64 200] _:=hr1
 obtain ⟨c,cs,hc⟩:∃c cs,aAv hl2=c::cs:=List.exists_cons_of_length_pos (by omega)
 rw [hc] at hti hti2 hr1 hl2r
 cases hA:aCt bs l
 · rw [hA,if_neg (by simp)] at hr1 hr2
   replace hr1:aAc Tryz.prog GL 37 [.agg [.ro 8 (c::cs),.int .i64 hq],.ro 1 (aAh out),.ro 3 (aA5 bs),.int .i64 200] (λy=>y= .tup [.ro 2 [],.str ⟨#[]⟩,.int .i64 10]):=hr1
   replace hr2:aAc Tryz.prog GL 37 [.agg [.ro 8 (aAv hl3),.int .i64 hq3],.ro 1 (aAh out3),.ro 3 (aA5 bs),.int .i64 200] (λy=>y= .tup [.ro 2 [],.str ⟨#[]⟩,.int .i64 10]):=hr2
   clear hgt htw
   generalize aAh (keep++keep)=r at hti hsn
   rw [aW2 r rfl] at hti
   refine vgo cN0 Tryz.func11 ?_
   repeat' first|refine sV ⟨?_⟩|refine sq (λh=>⟨?_⟩) λh=>⟨?_⟩|fail
   refine ⟨by decide +kernel,[0,1,3,7,15,31,63,127,255,511,1023,2047,4095,8191,16383,32767,32767,98303,262143,524287,1048575],by decide +kernel,?_⟩
   repeat' first|refine sV ⟨?_⟩|refine sq (λh=>⟨?_⟩) λh=>⟨?_⟩|fail
   refine ⟨by decide +kernel,[0,0,0,6,0,30,63,127,255,255,255,0,2559,7167,16383],by decide +kernel,?_⟩
   repeat' first|refine sV ⟨?_⟩|refine sq (λh=>⟨?_⟩) λh=>⟨?_⟩|fail
   conv=>whnf
   refine ⟨Nat.le_refl _,(show (0+(aAh keep).length)*8<=140737488355328 by omega),aAh keep,rfl,?_⟩
   repeat' first|refine sV ⟨?_⟩|refine sq (λh=>⟨?_⟩) λh=>⟨?_⟩|fail
   conv=>whnf
   refine ⟨Nat.le_refl _,(show ((aAh keep).length+(aAh keep).length)*8<=140737488355328 by omega),r,hsn,?_⟩
   repeat' first|refine sV ⟨?_⟩|refine sq (λh=>⟨?_⟩) λh=>⟨?_⟩|fail
   refine ⟨[13,148,149],[],λm st=>m=0/\st=⟨[(13,.ro 2 []),(148,.int .i64 0),(149,.int .i64 0)],[]⟩,rfl,⟨0,rfl,rfl⟩,?_⟩
   rintro m _ ⟨hm,rfl⟩
   repeat' first|refine sV ⟨?_⟩|refine sq (λh=>⟨?_⟩) λh=>⟨?_⟩|fail
   all_goals (conv=>whnf)
   all_goals rfl
 rw [hA,if_pos rfl,if_pos (show ((l.length:Nat):Int)<=200 by omega)] at hr1 hr2
 generalize aAw (aGc bs ⟨l,p⟩)=sL at hr1 hr2
 generalize cJb (bdB bs) l (keep++keep)=O at hr1 hr2 hol hgt htw
 replace hr1:aAc Tryz.prog GL 37 [.agg [.ro 8 (c::cs),.int .i64 hq],.ro 1 (aAh out),.ro 3 (aA5 bs),.int .i64 200] (λy=>y= .tup [.ro 2 O,.str sL,.int .i64 0]):=hr1
 replace hr2:aAc Tryz.prog GL 37 [.agg [.ro 8 (aAv hl3),.int .i64 hq3],.ro 1 (aAh out3),.ro 3 (aA5 bs),.int .i64 200] (λy=>y= .tup [.ro 2 O,.str sL,.int .i64 0]):=hr2
 rw [hk2] at hol hgt hlen
 generalize aAh (keep++keep)=r at hti hsn
 rw [aW2 r rfl] at hti
 refine vgo cN0 Tryz.func11 ?_
 repeat' first|refine sV ⟨?_⟩|refine sq (λh=>⟨?_⟩) λh=>⟨?_⟩|fail
 refine ⟨by decide +kernel,[0,1,3,7,15,31,63,127,255,511,1023,2047,4095,8191,16383,32767,32767,98303,262143,524287,1048575],by decide +kernel,?_⟩
 repeat' first|refine sV ⟨?_⟩|refine sq (λh=>⟨?_⟩) λh=>⟨?_⟩|fail
 refine ⟨by decide +kernel,[0,0,0,6,0,30,63,127,255,255,255,0,2559,7167,16383],by decide +kernel,?_⟩
 repeat' first|refine sV ⟨?_⟩|refine sq (λh=>⟨?_⟩) λh=>⟨?_⟩|fail
 conv=>whnf
 refine ⟨Nat.le_refl _,(show (0+(aAh keep).length)*8<=140737488355328 by omega),aAh keep,rfl,?_⟩
 repeat' first|refine sV ⟨?_⟩|refine sq (λh=>⟨?_⟩) λh=>⟨?_⟩|fail
 conv=>whnf
 refine ⟨Nat.le_refl _,(show ((aAh keep).length+(aAh keep).length)*8<=140737488355328 by omega),r,hsn,?_⟩
 repeat' first|refine sV ⟨?_⟩|refine sq (λh=>⟨?_⟩) λh=>⟨?_⟩|fail
 refine ⟨[1,13,16,148,149],[],λm st=>∃i:Nat,i<=O.length/\m=O.length - i/\
  st=⟨[(1,.ro 1 (aAh keep)),(13,.ro 2 O),(16,.ro 2 O),(148,.int .i64 (O.length:Nat)),(149,.int .i64 (i:Nat))],[]⟩,rfl,⟨O.length,0,by omega,rfl,rfl⟩,?_⟩
 rintro m _ ⟨i,hi,hm,rfl⟩
 rcases Nat.lt_or_ge i O.length with hil|hge
 · obtain ⟨sh,v,hv,gO⟩:=hgt i (by omega)
   have hE:=aK3 sh sh (v.map aAw) (v.map aAw) (by have:=hv.sl;omega) (by have:=hv.sl;omega) (by rw [List.length_map];have:=hv.vl;omega)
   rw [decide_eq_true rfl,decide_eq_true rfl,Bool.and_true] at hE
   unfold aEv at hE
   unfold aAj at gO
   rcases Nat.lt_or_ge i keep.length with h2|h2
   · have gP:O[i+keep.length]? =some [.ro 1 (aAh sh),.ro 1 (aCm (v.map aAw))]:=by rw [htw h2];exact gO
     rw [<- hkr] at gP
     repeat' first|refine sV ⟨?_⟩|refine sq (λh=>⟨?_⟩) λh=>⟨?_⟩|fail
     refine ⟨by decide +kernel,[0,0,3,7,0,0,48,112,255,511,1023,2047,2047,6143,16383,32767,65535,65535,262143,524287,65535,65535,65535,4259839,14745599,32571391,66125823,134217727,268435455,536870911,1073741823],by decide +kernel,?_⟩
     repeat' first|refine sV ⟨?_⟩|refine sq (λh=>⟨?_⟩) λh=>⟨?_⟩|fail
     conv=>whnf
     refine ⟨i+(aAh keep).length,_,rfl,gP,?_⟩
     repeat' first|refine sV ⟨?_⟩|refine sq (λh=>⟨?_⟩) λh=>⟨?_⟩|fail
     all_goals exact ⟨[],O.length - (i+1),rfl,by omega,i+1,by omega,rfl,rfl⟩
   · repeat' first|refine sV ⟨?_⟩|refine sq (λh=>⟨?_⟩) λh=>⟨?_⟩|fail
     refine ⟨by decide +kernel,[0,0,3,7,0,0,48,112,255,511,1023,2047,2047,6143,16383,32767,65535,65535,262143,524287,65535,65535,65535,4259839,14745599,32571391,66125823,134217727,268435455,536870911,1073741823],by decide +kernel,?_⟩
     repeat' first|refine sV ⟨?_⟩|refine sq (λh=>⟨?_⟩) λh=>⟨?_⟩|fail
     all_goals exact ⟨[],O.length - (i+1),rfl,by omega,i+1,by omega,rfl,rfl⟩
 · repeat' first|refine sV ⟨?_⟩|refine sq (λh=>⟨?_⟩) λh=>⟨?_⟩|fail
   all_goals (conv=>whnf)
   all_goals rfl
end Go.V
namespace Go.V
open Go.N Go.Proofs
set_option maxRecDepth 20000
def cUj:Tab:=[(24,i24),(4,i4),(27,i27),(3,i3),(38,i38),(43,i43),(28,i28),(22,i22),(34,i34),(9,i9)]
theorem cN4:TOK Tryz.prog cUj:=⟨K24,⟨K4,⟨K27,⟨K3,⟨K38,⟨K43,⟨K28,⟨K22,⟨K34,⟨K9,trivial⟩⟩⟩⟩⟩⟩⟩⟩⟩⟩
theorem cVt {bd:Nd->List Rat}{g h:Gr}{keep out:List Int}(T:Tight bd g h keep out){i:Nat}{x:Nd}(hx:h.nodes[i]? =some x):
 (aIp x.op=0)\/(∃ a:Nat,aIp x.op=1/\x.a=(a:Nat)/\a<i/\∃y:Nd,h.nodes[a]? =some y/\y.op≠aA0)\/
 (∃ a b:Nat,aIp x.op=2/\x.a=(a:Nat)/\a<i/\x.b=(b:Nat)/\b<i/\∃y z:Nd,h.nodes[a]? =some y/\h.nodes[b]? =some z/\(y.op=aA0->z.op≠aA0)):=by
 obtain ⟨o,ho,F⟩:=aIo T.ok hx
 have hop:aBh x.op=some o.many:=by rw [ho,aFw]
 have hp:aIp x.op=((o.many:Nat):Int):=by rw [aIp,hop]
 have hpn:aEe x.op=o.many:=by rw [ho,aHt]
 have hng:=T.nogo i x hx
 rw [aN9,hpn] at hng
 have h3:o.many=0\/o.many=1\/o.many=2:=by have:=aNi hop;omega
 rcases h3 with e|e|e
 · exact .inl (by rw [hp,e];rfl)
 · obtain ⟨a,ha,ha2,ha3⟩:=aDq (F.ia (by omega))
   have hy:=List.getElem?_eq_getElem ha3
   rw [e,ha,bF2 hy] at hng
   refine .inr (.inl ⟨a,by rw [hp,e];rfl,ha,ha2,_,hy,λh=>?_⟩)
   rw [h] at hng;simp at hng
 · obtain ⟨a,ha,ha2,ha3⟩:=aDq (F.ia (by omega))
   obtain ⟨b,hb,hb2,hb3⟩:=aDq (F.ib (by omega))
   have hy:=List.getElem?_eq_getElem ha3
   have hz:=List.getElem?_eq_getElem hb3
   rw [e,ha,hb,bF2 hy,bF2 hz] at hng
   refine .inr (.inr ⟨a,b,by rw [hp,e];rfl,ha,ha2,hb,hb2,_,_,hy,hz,λh h'=>?_⟩)
   rw [h,h'] at hng;simp at hng
set_option maxHeartbeats 8000000 in
open Classical in
theorem cUq (g:Gr) (keep:List Int):aAc Tryz.prog GL 12 [.agg g.cells,.ro 1 (aAh keep)] (λr=>r= .bool true):=by
 have haw:=cJd
 obtain ⟨l,p⟩:=g
 show aAc _ _ _ [.agg [.ro 8 (aAv l),.int .i64 p],.ro 1 (aAh keep)] _
 have hsm:=aK5 GL ⟨l,p⟩
 have hlr:=rowN_length l
 have hkr:=rowZ_length keep
 cases hS:aFh ⟨l,p⟩
 · rw [hS] at hsm
   refine vgo cN4 Tryz.func12 ?_
   repeat' first|refine sV ⟨?_⟩|refine sq (λh=>⟨?_⟩) λh=>⟨?_⟩|fail
   all_goals (conv=>whnf)
   all_goals rfl
 rw [hS] at hsm
 simp only [aFh,Bool.and_eq_true,decide_eq_true_eq,List.all_eq_true] at hS
 obtain ⟨hl,hs⟩:=hS
 have hs:=λx hx=>aMn (hs x hx)
 by_cases hkl:keep.length<=40
 case neg=>
  refine vgo cN4 Tryz.func12 ?_
  repeat' first|refine sV ⟨?_⟩|refine sq (λh=>⟨?_⟩) λh=>⟨?_⟩|fail
  all_goals (conv=>whnf)
  all_goals rfl
 have hcm:=bEv l p [] (by omega) hs (by decide) (λb hb=>by simp at hb)
 by_cases hC:aP4 l []<=400
 case neg=>
  rw [decide_eq_false hC] at hcm
  refine vgo cN4 Tryz.func12 ?_
  repeat' first|refine sV ⟨?_⟩|refine sq (λh=>⟨?_⟩) λh=>⟨?_⟩|fail
  all_goals (conv=>whnf)
  all_goals rfl
 rw [decide_eq_true hC] at hcm
 have hGi:=λh=>aFz (g:=⟨l,p⟩) h hs [] (λb hb=>by simp at hb) hC
 dsimp only at hGi
 have hti:=cOs (cHh []) ⟨l,p⟩ keep hs (by dsimp only;omega) (by omega) (λh=>aFm (hGi h)) (λh=>cN6 (hGi h))
 cases hok:cEu ⟨l,p⟩ keep
 · rw [hok,if_neg (by simp)] at hti
   refine vgo cN4 Tryz.func12 ?_
   repeat' first|refine sV ⟨?_⟩|refine sq (λh=>⟨?_⟩) λh=>⟨?_⟩|fail
   all_goals (conv=>whnf)
   all_goals rfl
 have hg:aC1 ⟨l,p⟩=true:=by simp only [cEu,Bool.and_eq_true] at hok;exact hok.1
 have hk:cEx ⟨l,p⟩ keep=true:=by simp only [cEu,Bool.and_eq_true] at hok;exact hok.2
 rw [hok,if_pos rfl] at hti
 have T:=cOb (g:=⟨l,p⟩) (cHh []) hg (aFm (hGi hg)) (cN6 (hGi hg)) hk
 have s3:=(cOc (g:=⟨l,p⟩) (cN6 (hGi hg)) hs keep).2.2
 have hpos:=(aMd T.ok).1
 have hsh:=T.short
 have hR:=bDn GL (cNu (bdB []) ⟨l,p⟩ keep).1 s3 (by dsimp only at hsh;omega)
 rw [T.ok] at hR
 have hpart:=λ{i:Nat} {x:Nd}=>@cVt _ _ _ _ _ T i x
 have hdiff:=T.diff
 clear T hGi
 generalize cNu (bdB []) ⟨l,p⟩ keep=K' at hti hR s3 hpos hsh hpart hdiff
 obtain ⟨⟨hl2,hq⟩,out⟩:=K'
 dsimp only at hti hR s3 hpos hsh hpart hdiff
 have hl2r:=rowN_length hl2
 replace hti:aAc Tryz.prog GL 34 [.agg [.ro 8 (aAv l),.int .i64 p],.ro 1 (aAh keep)] (λy=>y= .tup [.agg [.ro 8 (aAv hl2),.int .i64 hq],.ro 1 (aAh out),.int .i64 0]):=hti
 replace hR:aAc Tryz.prog GL 18 [.agg [.ro 8 (aAv hl2),.int .i64 hq]] (λy=>y= .bool true):=hR
 have hsm4:=λx (hx:x∈hl2) y (hy:y∈hl2)=>bH7 GL x y (s3 x hx) (s3 y hy)
 refine vgo cN4 Tryz.func12 ?_
 repeat' first|refine sV ⟨?_⟩|refine sq (λh=>⟨?_⟩) λh=>⟨?_⟩|fail
 refine ⟨[5,43,44,45],[0,1],λm st=>∃i:Nat,i<=hl2.length/\m=hl2.length - i/\
  st=⟨[(5,.bptr 1 0),(43,.ro 8 (aAv hl2)),(44,.int .i64 ((aAv hl2).length:Nat)),(45,.int .i64 (i:Nat))],
   [.box 24 [.ro 8 (aAv l),.int .i64 p],.box 24 [.ro 8 (aAv hl2),.int .i64 hq]]⟩,rfl,⟨hl2.length,0,by omega,rfl,rfl⟩,?_⟩
 rintro m _ ⟨i,hi,hm,rfl⟩
 rcases Nat.lt_or_ge i hl2.length with hil|hge
 · have hx:hl2[i]? =some hl2[i]:=List.getElem?_eq_getElem hil
   have hgx:(aAv hl2)[i]? =some (hl2[i]).cells:=aB1 hil
   have hpt:=hpart hx
   have hsame:∀k (hkl:k<hl2.length),k<i->aAc Tryz.prog GL 20 [.agg (hl2[i]).cells,.agg (hl2[k]).cells] (λr=>r= .bool false):=λk hk hki=>by
    have:=hsm4 hl2[i] (List.getElem_mem hil) hl2[k] (List.getElem_mem hk)
    rwa [decide_eq_false (λe=>by have:=hdiff i k _ hx (by rw [e];exact List.getElem?_eq_getElem hk);omega)] at this
   have hPa:=aK4 GL (hl2[i]).op
   generalize hl2[i]=x at hgx hpt hsame hPa
   obtain ⟨op,A,B,name,sh,kk,n,d⟩:=x
   unfold Nd.cells at hgx hsame
   dsimp only at hgx hpt hsame hPa
   rcases hpt with hp|⟨a,hp,ha,hai,⟨op3,A3,B3,name3,sh3,kk3,n3,d3⟩,hy,hyc⟩|⟨a,b,hp,ha,hai,hb,hbi,⟨op3,A3,B3,name3,sh3,kk3,n3,d3⟩,⟨op4,A4,B4,name4,sh4,kk4,n4,d4⟩,hy,hz,hyz⟩
   · rw [hp] at hPa
     repeat' first|refine sV ⟨?_⟩|refine sq (λh=>⟨?_⟩) λh=>⟨?_⟩|fail
     refine ⟨[5,8,9,43,44,45,107,108],[0,1,2],λm st=>∃k:Nat,k<=i/\m=i - k/\
      st=⟨[(5,.bptr 1 0),(8,.int .i64 (i:Nat)),(9,.bptr 2 0),(43,.ro 8 (aAv hl2)),(44,.int .i64 ((aAv hl2).length:Nat)),(45,.int .i64 (i:Nat)),(107,.int .i64 (i:Nat)),(108,.int .i64 (k:Nat))],
       [.box 24 [.ro 8 (aAv l),.int .i64 p],.box 24 [.ro 8 (aAv hl2),.int .i64 hq],.box 34 [.str op,.int .i64 A,.int .i64 B,.str name,.ro 1 (aAh sh),.str kk,.int .i64 n,.ro 1 (aCm d)]]⟩,rfl,⟨i,0,by omega,rfl,rfl⟩,?_⟩
     rintro m2 _ ⟨k,hk,hm2,rfl⟩
     rcases Nat.lt_or_ge k i with hki|hkge
     · have hgy:(aAv hl2)[k]? =some (hl2[k]).cells:=aB1 (by omega)
       have hsm3:=hsame k (by omega) hki
       generalize hl2[k]=y at hgy hsm3
       obtain ⟨op2,A2,B2,name2,sh2,kk2,n2,d2⟩:=y
       unfold Nd.cells at hgy
       dsimp only [Nd.cells] at hsm3 hgy
       repeat' first|refine sV ⟨?_⟩|refine sq (λh=>⟨?_⟩) λh=>⟨?_⟩|fail
       refine ⟨by decide +kernel,[0,0,2,0,14,30,63],by decide +kernel,?_⟩
       repeat' first|refine sV ⟨?_⟩|refine sq (λh=>⟨?_⟩) λh=>⟨?_⟩|fail
       all_goals exact ⟨[0,1,2],i - (k+1),rfl,by omega,k+1,by omega,rfl,rfl⟩
     · repeat' first|refine sV ⟨?_⟩|refine sq (λh=>⟨?_⟩) λh=>⟨?_⟩|fail
       all_goals exact ⟨[0,1],hl2.length - (i+1),rfl,by omega,i+1,by omega,rfl,rfl⟩
   · rw [hp] at hPa
     subst ha
     dsimp only at hyc
     have gy:(aAv hl2)[a]? =some [.str op3,.int .i64 A3,.int .i64 B3,.str name3,.ro 1 (aAh sh3),.str kk3,.int .i64 n3,.ro 1 (aCm d3)]:=by
      rw [aB1 (by omega),(List.getElem?_eq_some_iff.1 hy).2];rfl
     repeat' first|refine sV ⟨?_⟩|refine sq (λh=>⟨?_⟩) λh=>⟨?_⟩|fail
     refine ⟨[5,8,9,43,44,45,107,108],[0,1,2],λm st=>∃k:Nat,k<=i/\m=i - k/\
      st=⟨[(5,.bptr 1 0),(8,.int .i64 (i:Nat)),(9,.bptr 2 0),(43,.ro 8 (aAv hl2)),(44,.int .i64 ((aAv hl2).length:Nat)),(45,.int .i64 (i:Nat)),(107,.int .i64 (i:Nat)),(108,.int .i64 (k:Nat))],
       [.box 24 [.ro 8 (aAv l),.int .i64 p],.box 24 [.ro 8 (aAv hl2),.int .i64 hq],.box 34 [.str op,.int .i64 (a:Nat),.int .i64 B,.str name,.ro 1 (aAh sh),.str kk,.int .i64 n,.ro 1 (aCm d)]]⟩,rfl,⟨i,0,by omega,rfl,rfl⟩,?_⟩
     rintro m2 _ ⟨k,hk,hm2,rfl⟩
     rcases Nat.lt_or_ge k i with hki|hkge
     · have hgy:(aAv hl2)[k]? =some (hl2[k]).cells:=aB1 (by omega)
       have hsm3:=hsame k (by omega) hki
       generalize hl2[k]=y at hgy hsm3
       obtain ⟨op2,A2,B2,name2,sh2,kk2,n2,d2⟩:=y
       unfold Nd.cells at hgy
       dsimp only [Nd.cells] at hsm3 hgy
       repeat' first|refine sV ⟨?_⟩|refine sq (λh=>⟨?_⟩) λh=>⟨?_⟩|fail
       refine ⟨by decide +kernel,[0,0,2,0,14,30,63],by decide +kernel,?_⟩
       repeat' first|refine sV ⟨?_⟩|refine sq (λh=>⟨?_⟩) λh=>⟨?_⟩|fail
       all_goals exact ⟨[0,1,2],i - (k+1),rfl,by omega,k+1,by omega,rfl,rfl⟩
     · repeat' first|refine sV ⟨?_⟩|refine sq (λh=>⟨?_⟩) λh=>⟨?_⟩|fail
       all_goals exact ⟨[0,1],hl2.length - (i+1),rfl,by omega,i+1,by omega,rfl,rfl⟩
   · rw [hp] at hPa
     subst ha hb
     dsimp only at hyz
     have gy:(aAv hl2)[a]? =some [.str op3,.int .i64 A3,.int .i64 B3,.str name3,.ro 1 (aAh sh3),.str kk3,.int .i64 n3,.ro 1 (aCm d3)]:=by
      rw [aB1 (by omega),(List.getElem?_eq_some_iff.1 hy).2];rfl
     have gz:(aAv hl2)[b]? =some [.str op4,.int .i64 A4,.int .i64 B4,.str name4,.ro 1 (aAh sh4),.str kk4,.int .i64 n4,.ro 1 (aCm d4)]:=by
      rw [aB1 (by omega),(List.getElem?_eq_some_iff.1 hz).2];rfl
     by_cases e3:op3=aA0
     · have hyz:=hyz e3
       subst e3
       repeat' first|refine sV ⟨?_⟩|refine sq (λh=>⟨?_⟩) λh=>⟨?_⟩|fail
       refine ⟨[5,8,9,43,44,45,107,108],[0,1,2],λm st=>∃k:Nat,k<=i/\m=i - k/\
        st=⟨[(5,.bptr 1 0),(8,.int .i64 (i:Nat)),(9,.bptr 2 0),(43,.ro 8 (aAv hl2)),(44,.int .i64 ((aAv hl2).length:Nat)),(45,.int .i64 (i:Nat)),(107,.int .i64 (i:Nat)),(108,.int .i64 (k:Nat))],
         [.box 24 [.ro 8 (aAv l),.int .i64 p],.box 24 [.ro 8 (aAv hl2),.int .i64 hq],.box 34 [.str op,.int .i64 (a:Nat),.int .i64 (b:Nat),.str name,.ro 1 (aAh sh),.str kk,.int .i64 n,.ro 1 (aCm d)]]⟩,rfl,⟨i,0,by omega,rfl,rfl⟩,?_⟩
       rintro m2 _ ⟨k,hk,hm2,rfl⟩
       rcases Nat.lt_or_ge k i with hki|hkge
       · have hgy:(aAv hl2)[k]? =some (hl2[k]).cells:=aB1 (by omega)
         have hsm3:=hsame k (by omega) hki
         generalize hl2[k]=y at hgy hsm3
         obtain ⟨op2,A2,B2,name2,sh2,kk2,n2,d2⟩:=y
         unfold Nd.cells at hgy
         dsimp only [Nd.cells] at hsm3 hgy
         repeat' first|refine sV ⟨?_⟩|refine sq (λh=>⟨?_⟩) λh=>⟨?_⟩|fail
         refine ⟨by decide +kernel,[0,0,2,0,14,30,63],by decide +kernel,?_⟩
         repeat' first|refine sV ⟨?_⟩|refine sq (λh=>⟨?_⟩) λh=>⟨?_⟩|fail
         all_goals exact ⟨[0,1,2],i - (k+1),rfl,by omega,k+1,by omega,rfl,rfl⟩
       · repeat' first|refine sV ⟨?_⟩|refine sq (λh=>⟨?_⟩) λh=>⟨?_⟩|fail
         all_goals exact ⟨[0,1],hl2.length - (i+1),rfl,by omega,i+1,by omega,rfl,rfl⟩
     · repeat' first|refine sV ⟨?_⟩|refine sq (λh=>⟨?_⟩) λh=>⟨?_⟩|fail
       refine ⟨[5,8,9,43,44,45,107,108],[0,1,2],λm st=>∃k:Nat,k<=i/\m=i - k/\
        st=⟨[(5,.bptr 1 0),(8,.int .i64 (i:Nat)),(9,.bptr 2 0),(43,.ro 8 (aAv hl2)),(44,.int .i64 ((aAv hl2).length:Nat)),(45,.int .i64 (i:Nat)),(107,.int .i64 (i:Nat)),(108,.int .i64 (k:Nat))],
         [.box 24 [.ro 8 (aAv l),.int .i64 p],.box 24 [.ro 8 (aAv hl2),.int .i64 hq],.box 34 [.str op,.int .i64 (a:Nat),.int .i64 (b:Nat),.str name,.ro 1 (aAh sh),.str kk,.int .i64 n,.ro 1 (aCm d)]]⟩,rfl,⟨i,0,by omega,rfl,rfl⟩,?_⟩
       rintro m2 _ ⟨k,hk,hm2,rfl⟩
       rcases Nat.lt_or_ge k i with hki|hkge
       · have hgy:(aAv hl2)[k]? =some (hl2[k]).cells:=aB1 (by omega)
         have hsm3:=hsame k (by omega) hki
         generalize hl2[k]=y at hgy hsm3
         obtain ⟨op2,A2,B2,name2,sh2,kk2,n2,d2⟩:=y
         unfold Nd.cells at hgy
         dsimp only [Nd.cells] at hsm3 hgy
         repeat' first|refine sV ⟨?_⟩|refine sq (λh=>⟨?_⟩) λh=>⟨?_⟩|fail
         refine ⟨by decide +kernel,[0,0,2,0,14,30,63],by decide +kernel,?_⟩
         repeat' first|refine sV ⟨?_⟩|refine sq (λh=>⟨?_⟩) λh=>⟨?_⟩|fail
         all_goals exact ⟨[0,1,2],i - (k+1),rfl,by omega,k+1,by omega,rfl,rfl⟩
       · repeat' first|refine sV ⟨?_⟩|refine sq (λh=>⟨?_⟩) λh=>⟨?_⟩|fail
         all_goals exact ⟨[0,1],hl2.length - (i+1),rfl,by omega,i+1,by omega,rfl,rfl⟩
 · repeat' first|refine sV ⟨?_⟩|refine sq (λh=>⟨?_⟩) λh=>⟨?_⟩|fail
   all_goals (conv=>whnf)
   all_goals rfl
end Go.V
