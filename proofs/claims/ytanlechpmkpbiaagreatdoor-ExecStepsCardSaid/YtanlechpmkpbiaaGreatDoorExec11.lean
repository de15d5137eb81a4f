/-
  Lemmas (part 11) for: Exec: ExecRuns, ExecSteps, ExecLoss hold for all arguments; no condition.
-/
import Derived.Test.YtanlechpmkpbiaaGreatDoorExec6
set_option linter.all false
namespace Go.V
open Go.N Go.Proofs
set_option maxRecDepth 20000
def cL6:Tab:=[(31,i31),(4,i4),(22,i22),(3,i3),(41,i41),(52,i52),(42,i42),(53,i53),(29,i29),(25,i25),(5,i5),(34,i34),(9,i9),(54,i54),(27,i27)]
theorem cIh:TOK Tryz.prog cL6:=⟨K31,⟨K4,⟨K22,⟨K3,⟨K41,⟨K52,⟨K42,⟨K53,⟨K29,⟨K25,⟨K5,⟨K34,⟨K9,⟨K54,⟨K27,trivial⟩⟩⟩⟩⟩⟩⟩⟩⟩⟩⟩⟩⟩⟩⟩
set_option maxHeartbeats 8000000 in
open Classical in
theorem cL7 (g:Gr) (keep:List Int) (bs:List Bd) (mo:Int) (hbb:bs.length*64<=140737488351232) (hmo:0<=mo/\mo<256):aAc Tryz.prog GL 9 [.agg g.cells,.ro 1 (aAh keep),.ro 3 (aA5 bs),.int .u8 mo] (λr=>r= .bool true):=by
 have haw:=cJd
 obtain ⟨l,p⟩:=g
 show aAc _ _ _ [.agg [.ro 8 (aAv l),.int .i64 p],.ro 1 (aAh keep),.ro 3 (aA5 bs),.int .u8 mo] _
 have hsm:=aK5 GL ⟨l,p⟩
 have hrf:=cLa bs hbb
 have hsb:=aK6 bs
 have hlr:=rowN_length l
 have hbr:=aBk bs
 have hkr:=rowZ_length keep
 cases hS:aFh ⟨l,p⟩
 · rw [hS] at hsm
   refine aAa cIh HM Tryz.func9 rfl (by decide +kernel) (by decide +kernel) rfl ?_
   repeat' first|refine sY ⟨?_⟩|(refine sq ?_ ?_<;>refine λh=>⟨?_⟩<;>(first|contradiction|(exfalso;omega)|skip))|fail
   refine ⟨by decide +kernel,[0,1,3,7,15,31,63,127,255,511,1023,2047,4095,8191,16383,32767,32767,98303,262143,524287,1048575],by decide +kernel,?_⟩
   repeat' first|refine sY ⟨?_⟩|(refine sq ?_ ?_<;>refine λh=>⟨?_⟩<;>(first|contradiction|(exfalso;omega)|skip))|fail
   all_goals (conv=>whnf)
   all_goals rfl
 rw [hS] at hsm
 simp only [aFh,Bool.and_eq_true,decide_eq_true_eq,List.all_eq_true] at hS
 obtain ⟨hl,hs⟩:=hS
 have hs:=λx hx=>aMn (hs x hx)
 by_cases hkl:keep.length<=40
 case neg=>
  refine aAa cIh HM Tryz.func9 rfl (by decide +kernel) (by decide +kernel) rfl ?_
  repeat' first|refine sY ⟨?_⟩|(refine sq ?_ ?_<;>refine λh=>⟨?_⟩<;>(first|contradiction|(exfalso;omega)|skip))|fail
  refine ⟨by decide +kernel,[0,1,3,7,15,31,63,127,255,511,1023,2047,4095,8191,16383,32767,32767,98303,262143,524287,1048575],by decide +kernel,?_⟩
  repeat' first|refine sY ⟨?_⟩|(refine sq ?_ ?_<;>refine λh=>⟨?_⟩<;>(first|contradiction|(exfalso;omega)|skip))|fail
  all_goals (conv=>whnf)
  all_goals rfl
 cases hB:aGk bs
 · rw [hB] at hsb
   refine aAa cIh HM Tryz.func9 rfl (by decide +kernel) (by decide +kernel) rfl ?_
   repeat' first|refine sY ⟨?_⟩|(refine sq ?_ ?_<;>refine λh=>⟨?_⟩<;>(first|contradiction|(exfalso;omega)|skip))|fail
   refine ⟨by decide +kernel,[0,1,3,7,15,31,63,127,255,511,1023,2047,4095,8191,16383,32767,32767,98303,262143,524287,1048575],by decide +kernel,?_⟩
   repeat' first|refine sY ⟨?_⟩|(refine sq ?_ ?_<;>refine λh=>⟨?_⟩<;>(first|contradiction|(exfalso;omega)|skip))|fail
   all_goals (conv=>whnf)
   all_goals rfl
 rw [hB] at hsb
 obtain ⟨hbl,hbs⟩:=aKl hB
 have hcm:=bEv l p bs (by omega) hs (by omega) hbs
 by_cases hC:aP4 l bs<=400
 case neg=>
  rw [decide_eq_false hC] at hcm
  refine aAa cIh HM Tryz.func9 rfl (by decide +kernel) (by decide +kernel) rfl ?_
  repeat' first|refine sY ⟨?_⟩|(refine sq ?_ ?_<;>refine λh=>⟨?_⟩<;>(first|contradiction|(exfalso;omega)|skip))|fail
  refine ⟨by decide +kernel,[0,1,3,7,15,31,63,127,255,511,1023,2047,4095,8191,16383,32767,32767,98303,262143,524287,1048575],by decide +kernel,?_⟩
  repeat' first|refine sY ⟨?_⟩|(refine sq ?_ ?_<;>refine λh=>⟨?_⟩<;>(first|contradiction|(exfalso;omega)|skip))|fail
  all_goals (conv=>whnf)
  all_goals rfl
 rw [decide_eq_true hC] at hcm
 have hGi:=λh=>aFz (g:=⟨l,p⟩) h hs bs hbs hC
 dsimp only at hGi
 have hrun:=λz=>cK7 bs ⟨l,p⟩ keep z hs (by dsimp only;omega) (by omega) (by omega) hbs (λh=>aFm (hGi h)) (λh=>aFa (hGi h))
 have hr1:=hrun ((aAv l).length:Nat)
 have hr2:=hrun (((aAv l).length:Nat)+mo)
 have hr3:=hrun (((aAv l).length:Nat) - 1)
 clear hrun
 cases hok:cEu ⟨l,p⟩ keep
 · rw [cJc,hok,if_neg (by simp)] at hr1 hr2 hr3
   have h0:l.length<=40:=by omega
   refine aAa cIh HM Tryz.func9 rfl (by decide +kernel) (by decide +kernel) rfl ?_
   repeat' first|refine sY ⟨?_⟩|(refine sq ?_ ?_<;>refine λh=>⟨?_⟩<;>(first|contradiction|(exfalso;omega)|skip))|fail
   refine ⟨by decide +kernel,[0,1,3,7,15,31,63,127,255,511,1023,2047,4095,8191,16383,32767,32767,98303,262143,524287,1048575],by decide +kernel,?_⟩
   repeat' first|refine sY ⟨?_⟩|(refine sq ?_ ?_<;>refine λh=>⟨?_⟩<;>(first|contradiction|(exfalso;omega)|skip))|fail
   all_goals (conv=>whnf)
   all_goals rfl
 have h1:=(aMd (by simp only [cEu,Bool.and_eq_true] at hok;exact hok.1)).1
 dsimp only at h1
 rw [cJc,hok,if_pos rfl] at hr1 hr2 hr3
 dsimp only at hr1 hr2 hr3
 cases hA:aCt bs l
 · rw [hA,if_neg (by simp)] at hr1 hr2 hr3
   refine aAa cIh HM Tryz.func9 rfl (by decide +kernel) (by decide +kernel) rfl ?_
   repeat' first|refine sY ⟨?_⟩|(refine sq ?_ ?_<;>refine λh=>⟨?_⟩<;>(first|contradiction|(exfalso;omega)|skip))|fail
   refine ⟨by decide +kernel,[0,1,3,7,15,31,63,127,255,511,1023,2047,4095,8191,16383,32767,32767,98303,262143,524287,1048575],by decide +kernel,?_⟩
   repeat' first|refine sY ⟨?_⟩|(refine sq ?_ ?_<;>refine λh=>⟨?_⟩<;>(first|contradiction|(exfalso;omega)|skip))|fail
   all_goals (conv=>whnf)
   all_goals rfl
 rw [hA,if_pos rfl] at hr1 hr2 hr3
 rw [if_pos (by omega)] at hr1 hr2
 rw [if_neg (by omega)] at hr3
 generalize aAw (aGc bs ⟨l,p⟩)=sL at hr1 hr2
 generalize cJb (bdB bs) l keep=O at hr1 hr2
 refine aAa cIh HM Tryz.func9 rfl (by decide +kernel) (by decide +kernel) rfl ?_
 repeat' first|refine sY ⟨?_⟩|(refine sq ?_ ?_<;>refine λh=>⟨?_⟩<;>(first|contradiction|(exfalso;omega)|skip))|fail
 refine ⟨by decide +kernel,[0,1,3,7,15,31,63,127,255,511,1023,2047,4095,8191,16383,32767,32767,98303,262143,524287,1048575],by decide +kernel,?_⟩
 repeat' first|refine sY ⟨?_⟩|(refine sq ?_ ?_<;>refine λh=>⟨?_⟩<;>(first|contradiction|(exfalso;omega)|skip))|fail
 all_goals (conv=>whnf)
 all_goals rfl
end Go.V
