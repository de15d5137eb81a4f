/-
  Lemmas (part 3) for: Exec: ExecRuns, ExecSteps, ExecLoss hold for all arguments; no condition.
-/
import Derived.Test.YtanlechpmkpbiaaGreatDoorKeep13
set_option linter.all false
namespace Go.V
open Go.N Go.Proofs
set_option maxRecDepth 20000
def aYp:Tab:=[(27,i27),(22,i22),(3,i3),(4,i4),(23,i23),(9,i9),(149,aV9)]
theorem aHb:TOK Tryz.prog aYp:=⟨K27,⟨K22,⟨K3,⟨K4,⟨K23,⟨K9,⟨aXt,trivial⟩⟩⟩⟩⟩⟩⟩
def bCq:Tab:=[(25,i25),(27,i27),(42,i42),(53,i53),(3,i3),(9,i9),(22,i22)]
theorem aFs:TOK Tryz.prog bCq:=⟨K25,⟨K27,⟨K42,⟨K53,⟨K3,⟨K9,⟨K22,trivial⟩⟩⟩⟩⟩⟩⟩
def bLf:Tab:=[(31,i31),(29,i29),(25,i25),(3,i3),(9,i9),(42,i42),(53,i53),(27,i27),(4,i4),(54,i54)]
theorem bB2:TOK Tryz.prog bLf:=⟨K31,⟨K29,⟨K25,⟨K3,⟨K9,⟨K42,⟨K53,⟨K27,⟨K4,⟨K54,trivial⟩⟩⟩⟩⟩⟩⟩⟩⟩⟩
set_option maxHeartbeats 2000000 in
theorem bDj (s:List Int) (l:List ByteArray) (hsl:s.length<=1000) (hl:l.length<=1000) (hs:∀x∈l,x.size<190000):aAc Tryz.prog GL 111 [aEv s l] (λy=>y= .bool (okT s l)):=by
 have h1:=aA2 GL s (by omega)
 have hlr:=rowS_length l
 unfold aEv
 cases ho:aAl s
 · rw [show okT s l=false by rw [okT,ho];rfl]
   rw [ho] at h1
   refine aAa aHb HM Tryz.func111 rfl (by decide +kernel) (by decide +kernel) rfl ?_
   repeat' first|refine sY ⟨?_⟩|(refine sq ?_ ?_<;>refine λh=>⟨?_⟩<;>(first|contradiction|(exfalso;omega)|skip))|fail
   refine ⟨by decide +kernel,[0,1,3,7,15,31,63,127,31,287,799,2047,4095],by decide +kernel,?_⟩
   repeat' first|refine sY ⟨?_⟩|(refine sq ?_ ?_<;>refine λh=>⟨?_⟩<;>(first|contradiction|(exfalso;omega)|skip))|fail
   all_goals (conv=>whnf)
   all_goals rfl
 rw [ho] at h1
 have h2:=aHm GL s ho
 by_cases hz:(l.length:Int)=aA8 s
 case neg=>
  rw [show okT s l=false by rw [okT,aIj ho,decide_eq_false hz];simp]
  refine aAa aHb HM Tryz.func111 rfl (by decide +kernel) (by decide +kernel) rfl ?_
  repeat' first|refine sY ⟨?_⟩|(refine sq ?_ ?_<;>refine λh=>⟨?_⟩<;>(first|contradiction|(exfalso;omega)|skip))|fail
  refine ⟨by decide +kernel,[0,1,3,7,15,31,63,127,31,287,799,2047,4095],by decide +kernel,?_⟩
  repeat' first|refine sY ⟨?_⟩|(refine sq ?_ ?_<;>refine λh=>⟨?_⟩<;>(first|contradiction|(exfalso;omega)|skip))|fail
  all_goals (conv=>whnf)
  all_goals rfl
 have e:okT s l= !(l.any λx=> !aBa x):=by rw [okT,ho,aIj ho,decide_eq_true hz];rfl
 have hT1:(l.any λx=> !aBa x)=true->okT s l=false:=λh=>by rw [e,h];rfl
 have hT2:(l.any λx=> !aBa x)=false->okT s l=true:=λh=>by rw [e,h];rfl
 generalize okT s l=T at hT1 hT2 ⊢
 clear e
 refine aAa aHb HM Tryz.func111 rfl (by decide +kernel) (by decide +kernel) rfl ?_
 repeat' first|refine sY ⟨?_⟩|(refine sq ?_ ?_<;>refine λh=>⟨?_⟩<;>(first|contradiction|(exfalso;omega)|skip))|fail
 refine ⟨by decide +kernel,[0,1,3,7,15,31,63,127,31,287,799,2047,4095],by decide +kernel,?_⟩
 repeat' first|refine sY ⟨?_⟩|(refine sq ?_ ?_<;>refine λh=>⟨?_⟩<;>(first|contradiction|(exfalso;omega)|skip))|fail
 refine ⟨[1,3],[0],λm st=>∃i:Nat,i<=l.length/\m=l.length - i/\(l.take i).any (λd=> !aBa d)=false/\st=⟨[(1,.bptr 0 0),(3,.int .i64 (i:Nat))],[.box 27 [.ro 1 (aAh s),.ro 1 (aCm l)]]⟩,rfl,⟨l.length,0,by omega,rfl,by simp,rfl⟩,?_⟩
 rintro m _ ⟨i,hi,hm,ha,rfl⟩
 rcases Nat.lt_or_ge i l.length with hil|hge
 · have g:=aCd hil
   have hread:=aEx GL l[i] (hs _ (List.getElem_mem hil))
   cases hr:aBa l[i]
   · rw [hr] at hread
     have hT:=hT1 (bCv hil (by simp [hr]))
     subst hT
     generalize l[i]=x at g hread
     repeat' first|refine sY ⟨?_⟩|(refine sq ?_ ?_<;>refine λh=>⟨?_⟩<;>(first|contradiction|(exfalso;omega)|skip))|fail
     rintro _ ⟨p,q,rfl,_⟩
     repeat' first|refine sY ⟨?_⟩|(refine sq ?_ ?_<;>refine λh=>⟨?_⟩<;>(first|contradiction|(exfalso;omega)|skip))|fail
     all_goals (conv=>whnf)
     all_goals rfl
   · rw [hr] at hread
     have hx:=aVj hil ha (by simp [hr])
     generalize l[i]=x at g hread
     repeat' first|refine sY ⟨?_⟩|(refine sq ?_ ?_<;>refine λh=>⟨?_⟩<;>(first|contradiction|(exfalso;omega)|skip))|fail
     rintro _ ⟨p,q,rfl,_⟩
     repeat' first|refine sY ⟨?_⟩|(refine sq ?_ ?_<;>refine λh=>⟨?_⟩<;>(first|contradiction|(exfalso;omega)|skip))|fail
     all_goals exact ⟨[0],l.length - (i+1),rfl,by omega,i+1,by omega,rfl,hx,rfl⟩
 · rw [List.take_of_length_le (by omega)] at ha
   have hT:=hT2 ha
   subst hT
   repeat' first|refine sY ⟨?_⟩|(refine sq ?_ ?_<;>refine λh=>⟨?_⟩<;>(first|contradiction|(exfalso;omega)|skip))|fail
   all_goals (conv=>whnf)
   all_goals rfl
def bLo (bs:List Bd) (x:Nd):List Int×List ByteArray:=match bs.find? λb=>decide (b.name=x.name) with
 |some b=>(b.shape,b.data)
 |none=>([],[])
theorem bVt {bs:List Bd}{x:Nd}(h:aDx bs x=true):aEv (bLo bs x).1 (bLo bs x).2=aAs x.shape (bdB bs x):=by
 rcases aNd bs x.name with ⟨hf,_⟩|⟨k,hk,hf,_,_⟩
 · rw [aDx,hf] at h;cases h
 · have hb:=@bTp bs x k hk hf
   rw [aDx,hf] at h
   simp only [Bool.and_eq_true,decide_eq_true_eq] at h
   obtain ⟨_,hd⟩:=hb h
   rw [bLo,hf]
   dsimp only
   rw [aAs,aEv,aAj,<-hd,h.2]
set_option maxHeartbeats 4000000 in
theorem bDp (bs:List Bd) (x:Nd) (hbl:bs.length<=1000) (hbs:∀b∈bs,b.Sm) (hx:x.Sm):aAc Tryz.prog GL 58 [.agg x.cells,.ro 3 (aA5 bs)]
 (λy=>y= .tup [aEv (bLo bs x).1 (bLo bs x).2,.bool (aDx bs x)]):=by
 have hbr:=aBk bs
 have hxs:=hx.shape
 refine aAc.taken ?_
 rcases aNd bs x.name with ⟨hf,hall⟩|⟨k,hk,hf,hn,hall⟩
 · rw [show bLo bs x=([],[]) by rw [bLo,hf],show aDx bs x=false by rw [aDx,hf]]
   clear hf hbs
   obtain ⟨op,A,B,name,s,kk,n,d⟩:=x
   dsimp only at hall ⊢
   refine aAa aFs HM Tryz.func58 rfl (by decide +kernel) (by decide +kernel) rfl ?_
   repeat' first|refine sY ⟨?_⟩|(refine sq ?_ ?_<;>refine λh=>⟨?_⟩<;>(first|contradiction|(exfalso;omega)|skip))|fail
   refine ⟨[1,2,4,6],[0,1],λm st=>∃i:Nat,i<=bs.length/\m=bs.length - i/\st=⟨[(1,.ro 3 (aA5 bs)),(2,.bptr 0 0),(4,.bptr 1 0),(6,.int .i64 (i:Nat))],
    [.box 25 [.str op,.int .i64 A,.int .i64 B,.str name,.ro 1 (aAh s),.str kk,.int .i64 n,.ro 1 (aCm d)],.box 27 [.nils,.nils]]⟩,rfl,⟨bs.length,0,by omega,rfl,rfl⟩,?_⟩
   rintro m _ ⟨i,hi,hm,rfl⟩
   rcases Nat.lt_or_ge i bs.length with hil|hge
   · have gi:=aDs hil
     have hne:=hall i hil
     generalize bs[i]=c at gi hne
     obtain ⟨cn,csh,cda⟩:=c
     dsimp only at hne
     repeat' first|refine sY ⟨?_⟩|(refine sq ?_ ?_<;>refine λh=>⟨?_⟩<;>(first|contradiction|(exfalso;omega)|skip))|fail
     refine ⟨by decide +kernel,[0,0,3,7,15,0,32,127],by decide +kernel,?_⟩
     repeat' first|refine sY ⟨?_⟩|(refine sq ?_ ?_<;>refine λh=>⟨?_⟩<;>(first|contradiction|(exfalso;omega)|skip))|fail
     all_goals exact ⟨[0,1],bs.length - (i+1),rfl,by omega,i+1,by omega,rfl,rfl⟩
   · repeat' first|refine sY ⟨?_⟩|(refine sq ?_ ?_<;>refine λh=>⟨?_⟩<;>(first|contradiction|(exfalso;omega)|skip))|fail
     all_goals (conv=>whnf)
     all_goals exact ⟨_,aAf (aFo (show aC7 .nils (.ro 1 []) from ⟨1,rfl⟩) (show aC7 .nils (.ro 1 []) from ⟨1,rfl⟩)) rfl,rfl⟩
 · rw [show bLo bs x=(bs[k].shape,bs[k].data) by rw [bLo,hf],show aDx bs x=(okT bs[k].shape bs[k].data && decide (bs[k].shape=x.shape)) by rw [aDx,hf]]
   have hb:=hbs bs[k] (List.getElem_mem hk)
   have hR:=bDj bs[k].shape bs[k].data hb.shape hb.data (λd hd=>Nat.lt_of_le_of_lt (hb.each d hd) (by decide))
   have hS:=aDh GL bs[k].shape x.shape (by have:=hb.shape;omega) (by omega)
   have g:=aDs hk
   clear hf hb hbs
   generalize bs[k]=b at g hR hS hn ⊢
   obtain ⟨bn,bsh,bda⟩:=b
   obtain ⟨op,A,B,name,s,kk,n,d⟩:=x
   dsimp only at hR hS hn hall ⊢
   unfold aEv at hR ⊢
   cases hT:okT bsh bda
   · rw [hT] at hR
     refine aAa aFs HM Tryz.func58 rfl (by decide +kernel) (by decide +kernel) rfl ?_
     repeat' first|refine sY ⟨?_⟩|(refine sq ?_ ?_<;>refine λh=>⟨?_⟩<;>(first|contradiction|(exfalso;omega)|skip))|fail
     refine ⟨[1,2,4,6],[0,1],λm st=>∃i:Nat,i<=k/\m=k - i/\st=⟨[(1,.ro 3 (aA5 bs)),(2,.bptr 0 0),(4,.bptr 1 0),(6,.int .i64 (i:Nat))],
      [.box 25 [.str op,.int .i64 A,.int .i64 B,.str name,.ro 1 (aAh s),.str kk,.int .i64 n,.ro 1 (aCm d)],.box 27 [.nils,.nils]]⟩,rfl,⟨k,0,by omega,rfl,rfl⟩,?_⟩
     rintro m _ ⟨i,hi,hm,rfl⟩
     rcases Nat.lt_or_ge i k with hik|hge
     · have gi:=aDs (show i<bs.length by omega)
       have hne:=hall i (by omega) hik
       generalize bs[i]=c at gi hne
       obtain ⟨cn,csh,cda⟩:=c
       dsimp only at hne
       repeat' first|refine sY ⟨?_⟩|(refine sq ?_ ?_<;>refine λh=>⟨?_⟩<;>(first|contradiction|(exfalso;omega)|skip))|fail
       refine ⟨by decide +kernel,[0,0,3,7,15,0,32,127],by decide +kernel,?_⟩
       repeat' first|refine sY ⟨?_⟩|(refine sq ?_ ?_<;>refine λh=>⟨?_⟩<;>(first|contradiction|(exfalso;omega)|skip))|fail
       all_goals exact ⟨[0,1],k - (i+1),rfl,by omega,i+1,by omega,rfl,rfl⟩
     · obtain rfl:i=k:=by omega
       repeat' first|refine sY ⟨?_⟩|(refine sq ?_ ?_<;>refine λh=>⟨?_⟩<;>(first|contradiction|(exfalso;omega)|skip))|fail
       refine ⟨by decide +kernel,[0,0,3,7,15,0,32,127],by decide +kernel,?_⟩
       repeat' first|refine sY ⟨?_⟩|(refine sq ?_ ?_<;>refine λh=>⟨?_⟩<;>(first|contradiction|(exfalso;omega)|skip))|fail
       refine ⟨by decide +kernel,[0,0,3,7,15,0,0,96,224,480,992,2016,4064,4064,16352,32736,65504,131040,4064,266208,1048544,2097120,2097151,8388607],by decide +kernel,?_⟩
       repeat' first|refine sY ⟨?_⟩|(refine sq ?_ ?_<;>refine λh=>⟨?_⟩<;>(first|contradiction|(exfalso;omega)|skip))|fail
       all_goals (conv=>whnf)
       all_goals exact ⟨_,aAf (aFo rfl rfl) rfl,rfl⟩
   rw [hT] at hR
   by_cases h2:bsh=s
   · rw [decide_eq_true h2] at hS ⊢
     refine aAa aFs HM Tryz.func58 rfl (by decide +kernel) (by decide +kernel) rfl ?_
     repeat' first|refine sY ⟨?_⟩|(refine sq ?_ ?_<;>refine λh=>⟨?_⟩<;>(first|contradiction|(exfalso;omega)|skip))|fail
     refine ⟨[1,2,4,6],[0,1],λm st=>∃i:Nat,i<=k/\m=k - i/\st=⟨[(1,.ro 3 (aA5 bs)),(2,.bptr 0 0),(4,.bptr 1 0),(6,.int .i64 (i:Nat))],
      [.box 25 [.str op,.int .i64 A,.int .i64 B,.str name,.ro 1 (aAh s),.str kk,.int .i64 n,.ro 1 (aCm d)],.box 27 [.nils,.nils]]⟩,rfl,⟨k,0,by omega,rfl,rfl⟩,?_⟩
     rintro m _ ⟨i,hi,hm,rfl⟩
     rcases Nat.lt_or_ge i k with hik|hge
     · have gi:=aDs (show i<bs.length by omega)
       have hne:=hall i (by omega) hik
       generalize bs[i]=c at gi hne
       obtain ⟨cn,csh,cda⟩:=c
       dsimp only at hne
       repeat' first|refine sY ⟨?_⟩|(refine sq ?_ ?_<;>refine λh=>⟨?_⟩<;>(first|contradiction|(exfalso;omega)|skip))|fail
       refine ⟨by decide +kernel,[0,0,3,7,15,0,32,127],by decide +kernel,?_⟩
       repeat' first|refine sY ⟨?_⟩|(refine sq ?_ ?_<;>refine λh=>⟨?_⟩<;>(first|contradiction|(exfalso;omega)|skip))|fail
       all_goals exact ⟨[0,1],k - (i+1),rfl,by omega,i+1,by omega,rfl,rfl⟩
     · obtain rfl:i=k:=by omega
       repeat' first|refine sY ⟨?_⟩|(refine sq ?_ ?_<;>refine λh=>⟨?_⟩<;>(first|contradiction|(exfalso;omega)|skip))|fail
       refine ⟨by decide +kernel,[0,0,3,7,15,0,32,127],by decide +kernel,?_⟩
       repeat' first|refine sY ⟨?_⟩|(refine sq ?_ ?_<;>refine λh=>⟨?_⟩<;>(first|contradiction|(exfalso;omega)|skip))|fail
       refine ⟨by decide +kernel,[0,0,3,7,15,0,0,96,224,480,992,2016,4064,4064,16352,32736,65504,131040,4064,266208,1048544,2097120,2097151,8388607],by decide +kernel,?_⟩
       repeat' first|refine sY ⟨?_⟩|(refine sq ?_ ?_<;>refine λh=>⟨?_⟩<;>(first|contradiction|(exfalso;omega)|skip))|fail
       all_goals (conv=>whnf)
       all_goals exact ⟨_,aAf (aFo rfl rfl) rfl,rfl⟩
   · rw [decide_eq_false h2] at hS ⊢
     refine aAa aFs HM Tryz.func58 rfl (by decide +kernel) (by decide +kernel) rfl ?_
     repeat' first|refine sY ⟨?_⟩|(refine sq ?_ ?_<;>refine λh=>⟨?_⟩<;>(first|contradiction|(exfalso;omega)|skip))|fail
     refine ⟨[1,2,4,6],[0,1],λm st=>∃i:Nat,i<=k/\m=k - i/\st=⟨[(1,.ro 3 (aA5 bs)),(2,.bptr 0 0),(4,.bptr 1 0),(6,.int .i64 (i:Nat))],
      [.box 25 [.str op,.int .i64 A,.int .i64 B,.str name,.ro 1 (aAh s),.str kk,.int .i64 n,.ro 1 (aCm d)],.box 27 [.nils,.nils]]⟩,rfl,⟨k,0,by omega,rfl,rfl⟩,?_⟩
     rintro m _ ⟨i,hi,hm,rfl⟩
     rcases Nat.lt_or_ge i k with hik|hge
     · have gi:=aDs (show i<bs.length by omega)
       have hne:=hall i (by omega) hik
       generalize bs[i]=c at gi hne
       obtain ⟨cn,csh,cda⟩:=c
       dsimp only at hne
       repeat' first|refine sY ⟨?_⟩|(refine sq ?_ ?_<;>refine λh=>⟨?_⟩<;>(first|contradiction|(exfalso;omega)|skip))|fail
       refine ⟨by decide +kernel,[0,0,3,7,15,0,32,127],by decide +kernel,?_⟩
       repeat' first|refine sY ⟨?_⟩|(refine sq ?_ ?_<;>refine λh=>⟨?_⟩<;>(first|contradiction|(exfalso;omega)|skip))|fail
       all_goals exact ⟨[0,1],k - (i+1),rfl,by omega,i+1,by omega,rfl,rfl⟩
     · obtain rfl:i=k:=by omega
       repeat' first|refine sY ⟨?_⟩|(refine sq ?_ ?_<;>refine λh=>⟨?_⟩<;>(first|contradiction|(exfalso;omega)|skip))|fail
       refine ⟨by decide +kernel,[0,0,3,7,15,0,32,127],by decide +kernel,?_⟩
       repeat' first|refine sY ⟨?_⟩|(refine sq ?_ ?_<;>refine λh=>⟨?_⟩<;>(first|contradiction|(exfalso;omega)|skip))|fail
       refine ⟨by decide +kernel,[0,0,3,7,15,0,0,96,224,480,992,2016,4064,4064,16352,32736,65504,131040,4064,266208,1048544,2097120,2097151,8388607],by decide +kernel,?_⟩
       repeat' first|refine sY ⟨?_⟩|(refine sq ?_ ?_<;>refine λh=>⟨?_⟩<;>(first|contradiction|(exfalso;omega)|skip))|fail
       all_goals (conv=>whnf)
       all_goals exact ⟨_,aAf (aFo rfl rfl) rfl,rfl⟩
theorem aUn {bd:Nd->List Rat}{l:List Nd}{i:Nat}{c:List AV}(h:tcE bd l i=c):aCj bd l (i+1)=List.take (aCj bd l i).length (aCj bd l i)++[c]:=by
 rw [List.take_length,aNl,h]
theorem bAt {bd:Nd->List Rat}{l:List Nd}{c:List AV}(h:tcE bd l 0=c):aCj bd l (0+1)=[c]:=by
 rw [aNl,h];rfl
set_option maxHeartbeats 8000000 in
theorem bMg (bs:List Bd) (g:Gr) (hok:aC1 g=true) (hs:∀x∈g.nodes,x.Sm) (hl:g.nodes.length<=1000) (hbl:bs.length<=1000) (hbs:∀b∈bs,b.Sm) (hG:aG8 (bdB bs) g.nodes):
 aAc Tryz.prog GL 29 [.agg g.cells,.ro 3 (aA5 bs)]
  (λy=>y=if aCt bs g.nodes=true then .tup [.ro 2 (aCj (bdB bs) g.nodes g.nodes.length),.bool true] else .tup [.ro 2 [],.bool false]):=by
 refine aAc.taken ?_
 obtain ⟨h1,h2,q,hq1,hq⟩:=aMd hok
 have hpt:=λ{i:Nat} {x:Nd}=>@aT2 (bdB bs) g hok hG i x
 have hbv:=λ{i:Nat} {x:Nd}=>@bTq bs g hok i x
 have hgx:∀i (h:i<g.nodes.length),g.nodes[i]? =some g.nodes[i]:=λi h=>List.getElem?_eq_getElem h
 have hbo:=λi (h:i<g.nodes.length)=>bDp bs g.nodes[i] hbl hbs (hs _ (List.getElem_mem h))
 have hbt:=λi (h:i<g.nodes.length)=>@bVt bs g.nodes[i]
 have hbad:∀i (h:i<g.nodes.length),g.nodes[i].name≠⟨#[]⟩->aDx bs g.nodes[i]=false->aCt bs g.nodes=false:=λi h h1 h2=>List.all_eq_false.2 ⟨_,List.getElem_mem h,by simp [h1,h2]⟩
 have hgood:(∀ i (h:i<g.nodes.length),g.nodes[i].name≠⟨#[]⟩->aDx bs g.nodes[i]=true)->aCt bs g.nodes=true:=λh=>List.all_eq_true.2 λx hx=>by
  obtain ⟨k,hk,rfl⟩:=List.getElem_of_mem hx
  by_cases hn:g.nodes[k].name=⟨#[]⟩
  · simp [hn]
  · simp [h k hk hn]
 generalize aCt bs g.nodes=T at hbad hgood ⊢
 have hY1:T=true->(if T=true then AV.tup [.ro 2 (aCj (bdB bs) g.nodes g.nodes.length),.bool true] else .tup [.ro 2 [],.bool false])= .tup [.ro 2 (aCj (bdB bs) g.nodes g.nodes.length),.bool true]:=λh=>if_pos h
 have hY2:T=false->(if T=true then AV.tup [.ro 2 (aCj (bdB bs) g.nodes g.nodes.length),.bool true] else .tup [.ro 2 [],.bool false])= .tup [.ro 2 [],.bool false]:=λh=>if_neg (by simp [h])
 generalize (if T=true then AV.tup [.ro 2 (aCj (bdB bs) g.nodes g.nodes.length),.bool true] else .tup [.ro 2 [],.bool false])=Z at hY1 hY2 ⊢
 generalize hbd:bdB bs=bd at*
 clear hG hok hbd
 obtain ⟨l,p⟩:=g
 dsimp only at*
 show aAc _ _ _ [.agg [.ro 8 (aAv l),.int .i64 p],_] _
 have hlr:=rowN_length l
 have hbr:=aBk bs
 have hGL:∀i (h:i<l.length),aBv l (i:Nat)=l[i].shape:=λi h=>aAp h
 refine aAa bB2 HM Tryz.func29 rfl (by decide +kernel) (by decide +kernel) rfl ?_
 repeat' first|refine sY ⟨?_⟩|(refine sq ?_ ?_<;>refine λh=>⟨?_⟩<;>(first|contradiction|(exfalso;omega)|skip))|fail
 refine ⟨[1,2,6,7],[0],λm st=>∃i:Nat,i<=l.length/\m=l.length - i/\(∀ j (h:j<l.length),j<i->l[j].name≠⟨#[]⟩->aDx bs l[j]=true)/\
  ((i=0/\st=⟨[(1,.ro 3 (aA5 bs)),(2,.bptr 0 0),(6,.nils),(7,.int .i64 (i:Nat))],[.box 31 [.ro 8 (aAv l),.int .i64 p]]⟩)\/
  (0<i/\st=⟨[(1,.ro 3 (aA5 bs)),(2,.bptr 0 0),(6,.own 1 0 (aCj bd l i).length),(7,.int .i64 (i:Nat))],[.box 31 [.ro 8 (aAv l),.int .i64 p],.row false 27 2 (aCj bd l i)]⟩)),rfl,⟨l.length,0,by omega,rfl,λj h h0=>absurd h0 (Nat.not_lt_zero _),.inl ⟨rfl,rfl⟩⟩,?_⟩
 rintro m _ ⟨i,hi,hm,hall,hst⟩
 have htl:=aC0 bd l i
 rcases Nat.lt_or_ge i l.length with hil|hge
 · have hx:=hgx i hil
   have g1:=aB1 hil
   have hc:∀V,aAk bd l i=V->tcE bd l i=[.ro 1 (aAh l[i].shape),.ro 1 (aAj V)]:=λV h=>by rw [tcE,hGL i hil,h]
   have hnx:(l[i].name≠⟨#[]⟩->aDx bs l[i]=true)->∀j (h:j<l.length),j<i+1->l[j].name≠⟨#[]⟩->aDx bs l[j]=true:=λh j hj hji=>(Nat.lt_succ_iff_lt_or_eq.1 hji).elim (hall j hj) (λe=>by subst e;exact h)
   have hb:=hbo i hil
   have hbt:=hbt i hil
   have hbd:=hbad i hil
   by_cases hn:l[i].name=⟨#[]⟩
   · have hnx:=hnx λh=>absurd hn h
     obtain ⟨o,ho,p1,q1,hp,hq',hcase⟩:=hpt hx hn
     have hsn:=aUn (hc _ rfl)
     have hone:i=0->aCj bd l (0+1)=[[.ro 1 (aAh l[i].shape),.ro 1 (aAj (aAk bd l i))]]:=λh=>by subst h;exact bAt (hc _ rfl)
     clear hc hb hbt hbd hx
     generalize aAk bd l i=V at hsn hone hcase
     generalize l[i]=x at g1 hsn hone hn ho hp hq' hcase
     obtain ⟨op,A,B,name,s,k,n,d⟩:=x
     dsimp only at hsn hone hn ho hp hq' hcase
     subst hn ho hp hq'
     by_cases hcs:o= .const
     · subst hcs
       have hfit:FitV .const s k n d [] [] [] [] V:=by
        rcases hcase with ⟨_,_,_,_,h⟩|⟨_,_,h⟩
        · exact h
        · exact h.any (λh=>absurd h (by decide)) (λh=>absurd h (by decide))
       have hv:=bEz (p1:Int) (q1:Int) ⟨#[]⟩ hfit
       unfold aBn aAs at hv
       clear hcase
       rcases hst with ⟨rfl,rfl⟩|⟨h0,rfl⟩
       · have hone:=hone rfl
         repeat' first|refine sY ⟨?_⟩|(refine sq ?_ ?_<;>refine λh=>⟨?_⟩<;>(first|contradiction|(exfalso;omega)|skip))|fail
         conv=>whnf
         refine ⟨Nat.le_of_ble_eq_true rfl,λh=>Nat.succ_ne_zero _ (congrArg List.length h),?_⟩
         repeat' first|refine sY ⟨?_⟩|(refine sq ?_ ?_<;>refine λh=>⟨?_⟩<;>(first|contradiction|(exfalso;omega)|skip))|fail
         all_goals exact ⟨[0,5],l.length - (0+1),rfl,by omega,0+1,by omega,rfl,hnx,.inr ⟨by omega,Eq.trans rfl (congrArg (λz:List (List AV)=>(⟨[(1,.ro 3 (aA5 bs)),(2,.bptr 0 0),(6,.own 1 0 z.length),(7,.int .i64 ((0+1:Nat):Int))],[.box 31 [.ro 8 (aAv l),.int .i64 p],.row false 27 2 z]⟩:St)) hone.symm)⟩⟩
       · repeat' first|refine sY ⟨?_⟩|(refine sq ?_ ?_<;>refine λh=>⟨?_⟩<;>(first|contradiction|(exfalso;omega)|skip))|fail
         refine ⟨Nat.le_refl _,(show ((aCj bd l i).length+1)*48<=140737488355328 by omega),_,hsn,?_⟩
         repeat' first|refine sY ⟨?_⟩|(refine sq ?_ ?_<;>refine λh=>⟨?_⟩<;>(first|contradiction|(exfalso;omega)|skip))|fail
         all_goals exact ⟨[0,6],l.length - (i+1),rfl,by omega,i+1,by omega,rfl,hnx,.inr ⟨by omega,rfl⟩⟩
     · have hne:¬o.str=aA0:=λe=>hcs (aRt (o':=.const) e)
       obtain ⟨hp2,hq2,hfit⟩:p1<i/\q1<i/\FitV o s k n d (aBv l (p1:Nat)) (aAk bd l p1) (aBv l (q1:Nat)) (aAk bd l q1) V:=by
        rcases hcase with ⟨_,_,_,h,_⟩|h
        · exact absurd h hne
        · exact h
       have hv:=bEz (p1:Int) (q1:Int) ⟨#[]⟩ hfit
       unfold aBn aAs at hv
       have ga:(aCj bd l i)[0+p1]? =some [.ro 1 (aAh (aBv l (p1:Nat))),.ro 1 (aAj (aAk bd l p1))]:=by rw [Nat.zero_add];exact aD1 hp2
       have gb:(aCj bd l i)[0+q1]? =some [.ro 1 (aAh (aBv l (q1:Nat))),.ro 1 (aAj (aAk bd l q1))]:=by rw [Nat.zero_add];exact aD1 hq2
       clear hcase hfit hcs
       generalize o.str=op at*
       rcases hst with ⟨rfl,rfl⟩|⟨h0,rfl⟩
       · exact absurd hp2 (Nat.not_lt_zero _)
       · repeat' first|refine sY ⟨?_⟩|(refine sq ?_ ?_<;>refine λh=>⟨?_⟩<;>(first|contradiction|(exfalso;omega)|skip))|fail
         refine ⟨by decide +kernel,[0,0,2,7,15,0,0,64,224,480,31,2047],by decide +kernel,?_⟩
         repeat' first|refine sY ⟨?_⟩|(refine sq ?_ ?_<;>refine λh=>⟨?_⟩<;>(first|contradiction|(exfalso;omega)|skip))|fail
         refine ⟨Nat.le_refl _,(show ((aCj bd l i).length+1)*48<=140737488355328 by omega),_,hsn,?_⟩
         repeat' first|refine sY ⟨?_⟩|(refine sq ?_ ?_<;>refine λh=>⟨?_⟩<;>(first|contradiction|(exfalso;omega)|skip))|fail
         all_goals exact ⟨[0,6],l.length - (i+1),rfl,by omega,i+1,by omega,rfl,hnx,.inr ⟨by omega,rfl⟩⟩
   · have hv:=hbv hx hn
     have hsn:=aUn (hc _ hv)
     have hone:i=0->aCj bd l (0+1)=[[.ro 1 (aAh l[i].shape),.ro 1 (aAj (bd l[i]))]]:=λh=>by subst h;exact bAt (hc _ hv)
     have hbd:=hbd hn
     clear hc hv hx
     generalize bd l[i]=V at hsn hone hbt
     generalize (bLo bs l[i]).1=S at hb hbt
     generalize (bLo bs l[i]).2=D at hb hbt
     generalize aDx bs l[i]=ok at hb hbd hnx hbt
     generalize l[i]=x at g1 hsn hone hn hb hnx hbt
     obtain ⟨op,A,B,name,s,k,n,d⟩:=x
     dsimp only at hsn hone hn hb hbt
     cases ok
     · have hT:=hY2 (hbd rfl)
       unfold aEv at hb
       rcases hst with ⟨rfl,rfl⟩|⟨h0,rfl⟩
       · repeat' first|refine sY ⟨?_⟩|(refine sq ?_ ?_<;>refine λh=>⟨?_⟩<;>(first|contradiction|(exfalso;omega)|skip))|fail
         all_goals (conv=>whnf)
         all_goals exact ⟨_,aAf (show aC7 .nils (.ro 2 []) from ⟨2,rfl⟩) rfl,hT.symm⟩
       · repeat' first|refine sY ⟨?_⟩|(refine sq ?_ ?_<;>refine λh=>⟨?_⟩<;>(first|contradiction|(exfalso;omega)|skip))|fail
         all_goals (conv=>whnf)
         all_goals exact ⟨_,aAf (show aC7 .nils (.ro 2 []) from ⟨2,rfl⟩) rfl,hT.symm⟩
     · rw [hbt rfl] at hb
       have hnx:=hnx λ_=>rfl
       unfold aAs at hb
       rcases hst with ⟨rfl,rfl⟩|⟨h0,rfl⟩
       · have hone:=hone rfl
         repeat' first|refine sY ⟨?_⟩|(refine sq ?_ ?_<;>refine λh=>⟨?_⟩<;>(first|contradiction|(exfalso;omega)|skip))|fail
         conv=>whnf
         refine ⟨Nat.le_of_ble_eq_true rfl,λh=>Nat.succ_ne_zero _ (congrArg List.length h),?_⟩
         repeat' first|refine sY ⟨?_⟩|(refine sq ?_ ?_<;>refine λh=>⟨?_⟩<;>(first|contradiction|(exfalso;omega)|skip))|fail
         all_goals exact ⟨[0,4],l.length - (0+1),rfl,by omega,0+1,by omega,rfl,hnx,.inr ⟨by omega,Eq.trans rfl (congrArg (λz:List (List AV)=>(⟨[(1,.ro 3 (aA5 bs)),(2,.bptr 0 0),(6,.own 1 0 z.length),(7,.int .i64 ((0+1:Nat):Int))],[.box 31 [.ro 8 (aAv l),.int .i64 p],.row false 27 2 z]⟩:St)) hone.symm)⟩⟩
       · repeat' first|refine sY ⟨?_⟩|(refine sq ?_ ?_<;>refine λh=>⟨?_⟩<;>(first|contradiction|(exfalso;omega)|skip))|fail
         refine ⟨Nat.le_refl _,(show ((aCj bd l i).length+1)*48<=140737488355328 by omega),_,hsn,?_⟩
         repeat' first|refine sY ⟨?_⟩|(refine sq ?_ ?_<;>refine λh=>⟨?_⟩<;>(first|contradiction|(exfalso;omega)|skip))|fail
         all_goals exact ⟨[0,5],l.length - (i+1),rfl,by omega,i+1,by omega,rfl,hnx,.inr ⟨by omega,rfl⟩⟩
 · have hl2:i=l.length:=by omega
   subst hl2
   have hT:=hY1 (hgood λj h=>hall j h h)
   rcases hst with ⟨h0,rfl⟩|⟨h0,rfl⟩
   · omega
   · repeat' first|refine sY ⟨?_⟩|(refine sq ?_ ?_<;>refine λh=>⟨?_⟩<;>(first|contradiction|(exfalso;omega)|skip))|fail
     all_goals (conv=>whnf)
     all_goals exact ⟨_,aAf rfl rfl,hT.symm⟩
end Go.V
