/-
  Lemmas (part 15) for: Exec: ExecRuns, ExecSteps, ExecLoss hold for all arguments; no condition.
-/
import Derived.Test.YtanlechpmkpbiaaGreatDoorExec6
set_option linter.all false
namespace Go.V
open Go.N Go.Proofs
set_option maxRecDepth 20000
def cMg:Tab:=[(31,i31),(4,i4),(22,i22),(3,i3),(41,i41),(52,i52),(42,i42),(53,i53),(34,i34),(9,i9),(54,i54),(27,i27),(23,i23)]
theorem cIf:TOK Tryz.prog cMg:=⟨K31,⟨K4,⟨K22,⟨K3,⟨K41,⟨K52,⟨K42,⟨K53,⟨K34,⟨K9,⟨K54,⟨K27,⟨K23,trivial⟩⟩⟩⟩⟩⟩⟩⟩⟩⟩⟩⟩⟩
set_option maxHeartbeats 8000000 in
open Classical in
theorem cMl (g:Gr) (keep:List Int) (bs:List Bd) (hbb:bs.length*64<=140737488351232):aAc Tryz.prog GL 10 [.agg g.cells,.ro 1 (aAh keep),.ro 3 (aA5 bs)] (λr=>r= .bool true):=by
 have haw:=cJd
 obtain ⟨l,p⟩:=g
 show aAc _ _ _ [.agg [.ro 8 (aAv l),.int .i64 p],.ro 1 (aAh keep),.ro 3 (aA5 bs)] _
 have hsm:=aK5 GL ⟨l,p⟩
 have hrf:=cLa bs hbb
 have hsb:=aK6 bs
 have hlr:=rowN_length l
 have hbr:=aBk bs
 have hkr:=rowZ_length keep
 cases hS:aFh ⟨l,p⟩
 · rw [hS] at hsm
   refine aAa cIf HM Tryz.func10 rfl (by decide +kernel) (by decide +kernel) rfl ?_
   repeat' first|refine sY ⟨?_⟩|(refine sq ?_ ?_<;>refine λh=>⟨?_⟩<;>(first|contradiction|(exfalso;omega)|skip))|fail
   refine ⟨by decide +kernel,[0,1,3,7,15,31,63,127,255,511,1023,2047,4095,8191,16383,32767,32767,98303,262143,524287,1048575],by decide +kernel,?_⟩
   repeat' first|refine sY ⟨?_⟩|(refine sq ?_ ?_<;>refine λh=>⟨?_⟩<;>(first|contradiction|(exfalso;omega)|skip))|fail
   all_goals (conv=>whnf)
   all_goals rfl
 rw [hS] at hsm
 simp only [aFh,Bool.and_eq_true,decide_eq_true_eq,List.all_eq_true] at hS
 obtain ⟨hl,hs⟩:=hS
 have hs:=λx hx=>aMn (hs x hx)
 by_cases hkl:keep.length<=39
 case neg=>
  refine aAa cIf HM Tryz.func10 rfl (by decide +kernel) (by decide +kernel) rfl ?_
  repeat' first|refine sY ⟨?_⟩|(refine sq ?_ ?_<;>refine λh=>⟨?_⟩<;>(first|contradiction|(exfalso;omega)|skip))|fail
  refine ⟨by decide +kernel,[0,1,3,7,15,31,63,127,255,511,1023,2047,4095,8191,16383,32767,32767,98303,262143,524287,1048575],by decide +kernel,?_⟩
  repeat' first|refine sY ⟨?_⟩|(refine sq ?_ ?_<;>refine λh=>⟨?_⟩<;>(first|contradiction|(exfalso;omega)|skip))|fail
  all_goals (conv=>whnf)
  all_goals rfl
 cases hB:aGk bs
 · rw [hB] at hsb
   refine aAa cIf HM Tryz.func10 rfl (by decide +kernel) (by decide +kernel) rfl ?_
   repeat' first|refine sY ⟨?_⟩|(refine sq ?_ ?_<;>refine λh=>⟨?_⟩<;>(first|contradiction|(exfalso;omega)|skip))|fail
   refine ⟨by decide +kernel,[0,1,3,7,15,31,63,127,255,511,1023,2047,4095,8191,16383,32767,32767,98303,262143,524287,1048575],by decide +kernel,?_⟩
   repeat' first|refine sY ⟨?_⟩|(refine sq ?_ ?_<;>refine λh=>⟨?_⟩<;>(first|contradiction|(exfalso;omega)|skip))|fail
   all_goals (conv=>whnf)
   all_goals rfl
 rw [hB] at hsb
 obtain ⟨hbl,hbs⟩:=aKl hB
 have hcm:=bEv l p bs (by omega) hs (by omega) hbs
 by_cases hC:aP4 l bs<=400
 case neg=>
  rw [decide_eq_false hC] at hcm
  refine aAa cIf HM Tryz.func10 rfl (by decide +kernel) (by decide +kernel) rfl ?_
  repeat' first|refine sY ⟨?_⟩|(refine sq ?_ ?_<;>refine λh=>⟨?_⟩<;>(first|contradiction|(exfalso;omega)|skip))|fail
  refine ⟨by decide +kernel,[0,1,3,7,15,31,63,127,255,511,1023,2047,4095,8191,16383,32767,32767,98303,262143,524287,1048575],by decide +kernel,?_⟩
  repeat' first|refine sY ⟨?_⟩|(refine sq ?_ ?_<;>refine λh=>⟨?_⟩<;>(first|contradiction|(exfalso;omega)|skip))|fail
  all_goals (conv=>whnf)
  all_goals rfl
 rw [decide_eq_true hC] at hcm
 have hGi:=λh=>aFz (g:=⟨l,p⟩) h hs bs hbs hC
 dsimp only at hGi
 have hr1:=cK7 bs ⟨l,p⟩ keep 200 hs (by dsimp only;omega) (by omega) (by omega) hbs (λh=>aFm (hGi h)) (λh=>aFa (hGi h))
 have hr2:=cK7 bs ⟨l,p⟩ [p] 200 hs (by dsimp only;omega) (show 1<=1000 by decide) (by omega) hbs (λh=>aFm (hGi h)) (λh=>aFa (hGi h))
 have hlo:=aM4 bs ⟨l,p⟩ hs (by dsimp only;omega) (by omega) hbs (λh=>aFm (hGi h)) (λh=>aFa (hGi h))
 replace hr2:aAc Tryz.prog GL 36 [.agg [.ro 8 (aAv l),.int .i64 p],.ro 1 [[.int .i64 p]],.ro 3 (aA5 bs),.int .i64 200] (λy=>y=cJc bs ⟨l,p⟩ [p] 200):=hr2
 have h200:(l.length:Int)<=200:=by omega
 cases hg:aC1 ⟨l,p⟩
 · rw [cJc,if_neg (show ¬cEu ⟨l,p⟩ keep=true by rw [cEu,hg];simp)] at hr1
   rw [cJc,if_neg (show ¬cEu ⟨l,p⟩ [p]=true by rw [cEu,hg];simp)] at hr2
   rw [hg,if_neg (by simp)] at hlo
   refine aAa cIf HM Tryz.func10 rfl (by decide +kernel) (by decide +kernel) rfl ?_
   repeat' first|refine sY ⟨?_⟩|(refine sq ?_ ?_<;>refine λh=>⟨?_⟩<;>(first|contradiction|(exfalso;omega)|skip))|fail
   refine ⟨by decide +kernel,[0,1,3,7,15,31,63,127,255,511,1023,2047,4095,8191,16383,32767,32767,98303,262143,524287,1048575],by decide +kernel,?_⟩
   repeat' first|refine sY ⟨?_⟩|(refine sq ?_ ?_<;>refine λh=>⟨?_⟩<;>(first|contradiction|(exfalso;omega)|skip))|fail
   all_goals (conv=>whnf)
   all_goals rfl
 have G:=hGi hg
 obtain ⟨h1,h2,q,hq1,hql⟩:=aMd hg
 have hlv:=aWx hg (aFa G) hq1 hql
 dsimp only at hq1 hql hlv
 have hkp:cEu ⟨l,p⟩ [p]=true:=by
  rw [cEu,hg,cEx,Bool.true_and,Bool.not_eq_true',List.any_eq_false]
  intro x hx
  obtain rfl:=List.mem_singleton.1 hx
  simp only [Bool.or_eq_true,decide_eq_true_eq];omega
 rw [hg,if_pos rfl] at hlo
 rw [cJc,hkp,if_pos rfl] at hr2
 dsimp only at hlo hr2
 have ho:cJb (bdB bs) l [p]=[[.ro 1 (aAh (aBv l (q:Nat))),.ro 1 [[.str (aAw (aGc bs ⟨l,p⟩))]]]]:=by
  show [tcE (bdB bs) l p.toNat]=_
  rw [hq1,Int.toNat_natCast,tcE,hlv,<-hq1];rfl
 rw [ho] at hr2
 generalize aBv l (q:Nat)=sh at hr2
 cases hok:cEu ⟨l,p⟩ keep
 · rw [cJc,hok,if_neg (by simp)] at hr1
   cases hA:aCt bs l
   · rw [hA,if_neg (by simp)] at hr2 hlo
     refine aAa cIf HM Tryz.func10 rfl (by decide +kernel) (by decide +kernel) rfl ?_
     repeat' first|refine sY ⟨?_⟩|(refine sq ?_ ?_<;>refine λh=>⟨?_⟩<;>(first|contradiction|(exfalso;omega)|skip))|fail
     refine ⟨by decide +kernel,[0,1,3,7,15,31,63,127,255,511,1023,2047,4095,8191,16383,32767,32767,98303,262143,524287,1048575],by decide +kernel,?_⟩
     repeat' first|refine sY ⟨?_⟩|(refine sq ?_ ?_<;>refine λh=>⟨?_⟩<;>(first|contradiction|(exfalso;omega)|skip))|fail
     all_goals (conv=>whnf)
     all_goals rfl
   rw [hA,if_pos rfl] at hr2 hlo
   rw [if_pos h200] at hr2
   generalize aAw (aGc bs ⟨l,p⟩)=sL at hr2 hlo
   refine aAa cIf HM Tryz.func10 rfl (by decide +kernel) (by decide +kernel) rfl ?_
   repeat' first|refine sY ⟨?_⟩|(refine sq ?_ ?_<;>refine λh=>⟨?_⟩<;>(first|contradiction|(exfalso;omega)|skip))|fail
   refine ⟨by decide +kernel,[0,1,3,7,15,31,63,127,255,511,1023,2047,4095,8191,16383,32767,32767,98303,262143,524287,1048575],by decide +kernel,?_⟩
   repeat' first|refine sY ⟨?_⟩|(refine sq ?_ ?_<;>refine λh=>⟨?_⟩<;>(first|contradiction|(exfalso;omega)|skip))|fail
   all_goals (conv=>whnf)
   all_goals rfl
 rw [cJc,hok,if_pos rfl] at hr1
 dsimp only at hr1
 cases hA:aCt bs l
 · rw [hA,if_neg (by simp)] at hr1 hr2 hlo
   refine aAa cIf HM Tryz.func10 rfl (by decide +kernel) (by decide +kernel) rfl ?_
   repeat' first|refine sY ⟨?_⟩|(refine sq ?_ ?_<;>refine λh=>⟨?_⟩<;>(first|contradiction|(exfalso;omega)|skip))|fail
   refine ⟨by decide +kernel,[0,1,3,7,15,31,63,127,255,511,1023,2047,4095,8191,16383,32767,32767,98303,262143,524287,1048575],by decide +kernel,?_⟩
   repeat' first|refine sY ⟨?_⟩|(refine sq ?_ ?_<;>refine λh=>⟨?_⟩<;>(first|contradiction|(exfalso;omega)|skip))|fail
   all_goals (conv=>whnf)
   all_goals rfl
 rw [hA,if_pos rfl] at hr1 hr2 hlo
 rw [if_pos h200] at hr1 hr2
 generalize aAw (aGc bs ⟨l,p⟩)=sL at hr1 hr2 hlo
 generalize cJb (bdB bs) l keep=O at hr1
 clear ho hlv G hGi
 refine aAa cIf HM Tryz.func10 rfl (by decide +kernel) (by decide +kernel) rfl ?_
 repeat' first|refine sY ⟨?_⟩|(refine sq ?_ ?_<;>refine λh=>⟨?_⟩<;>(first|contradiction|(exfalso;omega)|skip))|fail
 refine ⟨by decide +kernel,[0,1,3,7,15,31,63,127,255,511,1023,2047,4095,8191,16383,32767,32767,98303,262143,524287,1048575],by decide +kernel,?_⟩
 repeat' first|refine sY ⟨?_⟩|(refine sq ?_ ?_<;>refine λh=>⟨?_⟩<;>(first|contradiction|(exfalso;omega)|skip))|fail
 all_goals (conv=>whnf)
 all_goals rfl
end Go.V
