/-
  Lemmas (part 7) for: Exec: ExecRuns, ExecSteps, ExecLoss hold for all arguments; no condition.
-/
import Derived.Test.YtanlechpmkpbiaaGreatDoorExec6
import Derived.Test.YtanlechpmkpbiaaGreatDoorKeep11
import Derived.Test.YtanlechpmkpbiaaGreatDoorKeep5
set_option linter.all false
namespace Go.V
open Go.N Go.Proofs
set_option maxRecDepth 20000
def cMh:Tab:=[(31,i31),(41,i41),(52,i52),(4,i4),(22,i22),(3,i3),(42,i42),(53,i53),(54,i54),(27,i27),(9,i9),(34,i34),(29,i29),(25,i25),(23,i23)]
theorem cIg:TOK Tryz.prog cMh:=⟨K31,⟨K41,⟨K52,⟨K4,⟨K22,⟨K3,⟨K42,⟨K53,⟨K54,⟨K27,⟨K9,⟨K34,⟨K29,⟨K25,⟨K23,trivial⟩⟩⟩⟩⟩⟩⟩⟩⟩⟩⟩⟩⟩⟩⟩
set_option maxHeartbeats 8000000 in
open Classical in
theorem cMm (g:Gr) (keep:List Int) (bs:List Bd) (steps:Int) (hbb:bs.length*64<=140737488351232):aAc Tryz.prog GL 8 [.agg g.cells,.ro 1 (aAh keep),.ro 3 (aA5 bs),.int .i64 steps] (λr=>r= .bool true):=by
 have haw:=cJd
 obtain ⟨l,p⟩:=g
 show aAc _ _ _ [.agg [.ro 8 (aAv l),.int .i64 p],.ro 1 (aAh keep),.ro 3 (aA5 bs),.int .i64 steps] _
 have hsm:=aK5 GL ⟨l,p⟩
 have hrf:=cLa bs hbb
 have hsb:=aK6 bs
 have hlr:=rowN_length l
 have hbr:=aBk bs
 have hkr:=rowZ_length keep
 cases hS:aFh ⟨l,p⟩
 · rw [hS] at hsm
   refine aAa cIg HM Tryz.func8 rfl (by decide +kernel) (by decide +kernel) rfl ?_
   repeat' first|refine sY ⟨?_⟩|(refine sq ?_ ?_<;>refine λh=>⟨?_⟩<;>(first|contradiction|(exfalso;omega)|skip))|fail
   all_goals (conv=>whnf)
   all_goals rfl
 rw [hS] at hsm
 simp only [aFh,Bool.and_eq_true,decide_eq_true_eq,List.all_eq_true] at hS
 obtain ⟨hl,hs⟩:=hS
 have hs:=λx hx=>aMn (hs x hx)
 by_cases hkl:keep.length<=40
 case neg=>
  refine aAa cIg HM Tryz.func8 rfl (by decide +kernel) (by decide +kernel) rfl ?_
  repeat' first|refine sY ⟨?_⟩|(refine sq ?_ ?_<;>refine λh=>⟨?_⟩<;>(first|contradiction|(exfalso;omega)|skip))|fail
  all_goals (conv=>whnf)
  all_goals rfl
 cases hB:aGk bs
 · rw [hB] at hsb
   refine aAa cIg HM Tryz.func8 rfl (by decide +kernel) (by decide +kernel) rfl ?_
   repeat' first|refine sY ⟨?_⟩|(refine sq ?_ ?_<;>refine λh=>⟨?_⟩<;>(first|contradiction|(exfalso;omega)|skip))|fail
   all_goals (conv=>whnf)
   all_goals rfl
 rw [hB] at hsb
 obtain ⟨hbl,hbs⟩:=aKl hB
 have hcm:=bEv l p bs (by omega) hs (by omega) hbs
 by_cases hC:aP4 l bs<=400
 case neg=>
  rw [decide_eq_false hC] at hcm
  refine aAa cIg HM Tryz.func8 rfl (by decide +kernel) (by decide +kernel) rfl ?_
  repeat' first|refine sY ⟨?_⟩|(refine sq ?_ ?_<;>refine λh=>⟨?_⟩<;>(first|contradiction|(exfalso;omega)|skip))|fail
  all_goals (conv=>whnf)
  all_goals rfl
 rw [decide_eq_true hC] at hcm
 have hGi:=λh=>aFz (g:=⟨l,p⟩) h hs bs hbs hC
 dsimp only at hGi
 have hrun:=cK7 bs ⟨l,p⟩ keep steps hs (by dsimp only;omega) (by omega) (by omega) hbs (λh=>aFm (hGi h)) (λh=>aFa (hGi h))
 have hR:=bDn GL ⟨l,p⟩ hs (by dsimp only;omega)
 cases hg:aC1 ⟨l,p⟩
 · rw [cJc,if_neg (show ¬cEu ⟨l,p⟩ keep=true by rw [cEu,hg];simp)] at hrun
   rw [hg] at hR
   refine aAa cIg HM Tryz.func8 rfl (by decide +kernel) (by decide +kernel) rfl ?_
   repeat' first|refine sY ⟨?_⟩|(refine sq ?_ ?_<;>refine λh=>⟨?_⟩<;>(first|contradiction|(exfalso;omega)|skip))|fail
   all_goals (conv=>whnf)
   all_goals rfl
 rw [hg] at hR
 have hnd:=cL0 GL ⟨l,p⟩ keep hg (by omega)
 cases hk:cEx ⟨l,p⟩ keep
 · rw [cJc,if_neg (show ¬cEu ⟨l,p⟩ keep=true by rw [cEu,hk];simp)] at hrun
   rw [hk,if_neg (by simp)] at hnd
   refine aAa cIg HM Tryz.func8 rfl (by decide +kernel) (by decide +kernel) rfl ?_
   repeat' first|refine sY ⟨?_⟩|(refine sq ?_ ?_<;>refine λh=>⟨?_⟩<;>(first|contradiction|(exfalso;omega)|skip))|fail
   all_goals (conv=>whnf)
   all_goals rfl
 rw [cJc,if_pos (show cEu ⟨l,p⟩ keep=true by rw [cEu,hg,hk];rfl)] at hrun
 rw [hk,if_pos rfl] at hnd
 have G:=hGi hg
 have hra:=bMg bs ⟨l,p⟩ hg hs (by dsimp only;omega) (by omega) hbs (aFm G)
 dsimp only at hrun hra hnd
 generalize fB l.length (NB ⟨l,p⟩ keep)=fb at hnd
 cases hA:aCt bs l
 · rw [hA,if_neg (by simp)] at hrun hra
   refine aAa cIg HM Tryz.func8 rfl (by decide +kernel) (by decide +kernel) rfl ?_
   repeat' first|refine sY ⟨?_⟩|(refine sq ?_ ?_<;>refine λh=>⟨?_⟩<;>(first|contradiction|(exfalso;omega)|skip))|fail
   all_goals (conv=>whnf)
   all_goals rfl
 rw [hA,if_pos rfl] at hrun hra
 by_cases hst:(l.length:Int)<=steps
 case neg=>
  rw [if_neg hst] at hrun
  refine aAa cIg HM Tryz.func8 rfl (by decide +kernel) (by decide +kernel) rfl ?_
  repeat' first|refine sY ⟨?_⟩|(refine sq ?_ ?_<;>refine λh=>⟨?_⟩<;>(first|contradiction|(exfalso;omega)|skip))|fail
  all_goals (conv=>whnf)
  all_goals rfl
 rw [if_pos hst] at hrun
 obtain ⟨h1,h2,q,hq1,hql⟩:=aMd hg
 have hlv:=aWx hg (aFa G) hq1 hql
 have hke:=λ{x:Int}=>@cE7 ⟨l,p⟩ keep hk x
 have hsv:=λ{i:Nat} {x:Nd}=>@aL2 (bdB bs) l _ G i x
 have htl:=aC0 (bdB bs) l l.length
 have hol:=cLq (bdB bs) l keep
 dsimp only at hq1 hql hlv hke
 have gq:(aCj (bdB bs) l l.length)[q]? =some [.ro 1 (aAh (aBv l (q:Nat))),.ro 1 [[.str (aAw (aGc bs ⟨l,p⟩))]]]:=by rw [aD1 hql,tcE,hlv];rfl
 have hgt:∀i (h:i<keep.length),∃(k:Nat) (s:List Int) (v:List Rat),keep[i]=(k:Nat)/\k<l.length/\VT s v/\(cJb (bdB bs) l keep)[i]? =some [.ro 1 (aAh s),.ro 1 (aAj v)]/\(aCj (bdB bs) l l.length)[k]? =some [.ro 1 (aAh s),.ro 1 (aAj v)]:=λi h=>by
  obtain ⟨k,e1,e2⟩:=hke (List.getElem_mem h)
  have e3:tcE (bdB bs) l k=[.ro 1 (aAh l[k].shape),.ro 1 (aAj (aAk (bdB bs) l k))]:=by rw [tcE,aAp e2]
  exact ⟨k,_,_,e1,e2,(hsv (List.getElem?_eq_getElem e2)).1,by rw [cJb,List.getElem?_map,List.getElem?_eq_getElem h,e1,Option.map_some,Int.toNat_natCast,e3],by rw [aD1 e2,e3]⟩
 generalize aAw (aGc bs ⟨l,p⟩)=sL at hrun gq
 generalize aBv l (q:Nat)=sqh at gq
 generalize aCj (bdB bs) l l.length=R at hra htl gq hgt
 generalize cJb (bdB bs) l keep=O at hrun hol hgt
 clear hsv hlv hGi G hke
 subst hq1
 refine aAa cIg HM Tryz.func8 rfl (by decide +kernel) (by decide +kernel) rfl ?_
 repeat' first|refine sY ⟨?_⟩|(refine sq ?_ ?_<;>refine λh=>⟨?_⟩<;>(first|contradiction|(exfalso;omega)|skip))|fail
 refine ⟨[10,14,136,137,138],[],λm st=>∃i:Nat,i<=keep.length/\m=keep.length - i/\
  st=⟨[(10,.ro 2 O),(14,.ro 2 R),(136,.ro 1 (aAh keep)),(137,.int .i64 ((aAh keep).length:Nat)),(138,.int .i64 (i:Nat))],[]⟩,rfl,⟨keep.length,0,by omega,rfl,rfl⟩,?_⟩
 rintro m _ ⟨i,hi,hm,rfl⟩
 rcases Nat.lt_or_ge i keep.length with hil|hge
 · obtain ⟨k,sh,v,hk1,hk2,hv,gO,gR⟩:=hgt i hil
   have gk:(aAh keep)[i]? =some [.int .i64 (k:Nat)]:=by rw [aE6 hil,hk1]
   have hE:=aK3 sh sh (v.map aAw) (v.map aAw) (by have:=hv.sl;omega) (by have:=hv.sl;omega) (by rw [List.length_map];have:=hv.vl;omega)
   rw [decide_eq_true rfl,decide_eq_true rfl,Bool.and_true] at hE
   unfold aEv at hE
   unfold aAj at gO gR
   repeat' first|refine sY ⟨?_⟩|(refine sq ?_ ?_<;>refine λh=>⟨?_⟩<;>(first|contradiction|(exfalso;omega)|skip))|fail
   refine ⟨by decide +kernel,[0,0,3,7,0,0,48,112,255,511],by decide +kernel,?_⟩
   repeat' first|refine sY ⟨?_⟩|(refine sq ?_ ?_<;>refine λh=>⟨?_⟩<;>(first|contradiction|(exfalso;omega)|skip))|fail
   all_goals exact ⟨[],keep.length - (i+1),rfl,by omega,i+1,by omega,rfl,rfl⟩
 · repeat' first|refine sY ⟨?_⟩|(refine sq ?_ ?_<;>refine λh=>⟨?_⟩<;>(first|contradiction|(exfalso;omega)|skip))|fail
   all_goals (conv=>whnf)
   all_goals rfl
end Go.V
