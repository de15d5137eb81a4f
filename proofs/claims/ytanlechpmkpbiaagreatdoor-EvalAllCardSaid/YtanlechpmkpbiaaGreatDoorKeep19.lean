/-
  Lemmas (part 19) for: Fold and Eval: FoldKeeps, EvalAll, EvalScale hold for all arguments; no condition.
-/
import Derived.Test.YtanlechpmkpbiaaGreatDoorKeep13
set_option linter.all false
namespace Go.V
open Go.N Go.Proofs
set_option maxRecDepth 20000
def aYp:Tab:=[(27,i27),(22,i22),(3,i3),(4,i4),(23,i23),(9,i9),(149,aV9)]
theorem aHb:TOK Tryz.prog aYp:=⟨K27,⟨K22,⟨K3,⟨K4,⟨K23,⟨K9,⟨aXt,trivial⟩⟩⟩⟩⟩⟩⟩
def bCq:Tab:=[(25,i25),(27,i27),(42,i42),(53,i53),(3,i3),(9,i9),(22,i22)]
theorem aFs:TOK Tryz.prog bCq:=⟨K25,⟨K27,⟨K42,⟨K53,⟨K3,⟨K9,⟨K22,trivial⟩⟩⟩⟩⟩⟩⟩
def bLf:Tab:=[(31,i31),(29,i29),(25,i25),(3,i3),(9,i9),(42,i42),(53,i53),(27,i27),(4,i4),(54,i54)]
theorem bB2:TOK Tryz.prog bLf:=⟨K31,⟨K29,⟨K25,⟨K3,⟨K9,⟨K42,⟨K53,⟨K27,⟨K4,⟨K54,trivial⟩⟩⟩⟩⟩⟩⟩⟩⟩⟩
set_option maxHeartbeats 2000000 in
theorem bDj (s:List Int) (l:List ByteArray) (hsl:s.length<=1000) (hl:l.length<=1000) (hs:∀x∈l,x.size<190000):aAc Tryz.prog GL 111 [aEv s l] (λy=>y= .bool (okT s l)):=by
 have h1:=aA2 GL s (by omega)
 have hlr:=rowS_length l
 unfold aEv
 cases ho:aAl s
 · rw [show okT s l=false by rw [okT,ho];rfl]
   rw [ho] at h1
   refine aAa aHb HM Tryz.func111 rfl (by decide +kernel) (by decide +kernel) rfl ?_
   repeat' first|refine sY ⟨?_⟩|(refine sq ?_ ?_<;>refine λh=>⟨?_⟩<;>(first|contradiction|(exfalso;omega)|skip))|fail
   refine ⟨by decide +kernel,[0,1,3,7,15,31,63,127,31,287,799,2047,4095],by decide +kernel,?_⟩
   repeat' first|refine sY ⟨?_⟩|(refine sq ?_ ?_<;>refine λh=>⟨?_⟩<;>(first|contradiction|(exfalso;omega)|skip))|fail
   all_goals (conv=>whnf)
   all_goals rfl
 rw [ho] at h1
 have h2:=aHm GL s ho
 by_cases hz:(l.length:Int)=aA8 s
 case neg=>
  rw [show okT s l=false by rw [okT,aIj ho,decide_eq_false hz];simp]
  refine aAa aHb HM Tryz.func111 rfl (by decide +kernel) (by decide +kernel) rfl ?_
  repeat' first|refine sY ⟨?_⟩|(refine sq ?_ ?_<;>refine λh=>⟨?_⟩<;>(first|contradiction|(exfalso;omega)|skip))|fail
  refine ⟨by decide +kernel,[0,1,3,7,15,31,63,127,31,287,799,2047,4095],by decide +kernel,?_⟩
  repeat' first|refine sY ⟨?_⟩|(refine sq ?_ ?_<;>refine λh=>⟨?_⟩<;>(first|contradiction|(exfalso;omega)|skip))|fail
  all_goals (conv=>whnf)
  all_goals rfl
 have e:okT s l= !(l.any λx=> !aBa x):=by rw [okT,ho,aIj ho,decide_eq_true hz];rfl
 have hT1:(l.any λx=> !aBa x)=true->okT s l=false:=λh=>by rw [e,h];rfl
 have hT2:(l.any λx=> !aBa x)=false->okT s l=true:=λh=>by rw [e,h];rfl
 generalize okT s l=T at hT1 hT2 ⊢
 clear e
 refine aAa aHb HM Tryz.func111 rfl (by decide +kernel) (by decide +kernel) rfl ?_
 repeat' first|refine sY ⟨?_⟩|(refine sq ?_ ?_<;>refine λh=>⟨?_⟩<;>(first|contradiction|(exfalso;omega)|skip))|fail
 refine ⟨by decide +kernel,[0,1,3,7,15,31,63,127,31,287,799,2047,4095],by decide +kernel,?_⟩
 repeat' first|refine sY ⟨?_⟩|(refine sq ?_ ?_<;>refine λh=>⟨?_⟩<;>(first|contradiction|(exfalso;omega)|skip))|fail
 refine ⟨[1,3],[0],λm st=>∃i:Nat,i<=l.length/\m=l.length - i/\(l.take i).any (λd=> !aBa d)=false/\st=⟨[(1,.bptr 0 0),(3,.int .i64 (i:Nat))],[.box 27 [.ro 1 (aAh s),.ro 1 (aCm l)]]⟩,rfl,⟨l.length,0,by omega,rfl,by simp,rfl⟩,?_⟩
 rintro m _ ⟨i,hi,hm,ha,rfl⟩
 rcases Nat.lt_or_ge i l.length with hil|hge
 · have g:=aCd hil
   have hread:=aEx GL l[i] (hs _ (List.getElem_mem hil))
   cases hr:aBa l[i]
   · rw [hr] at hread
     have hT:=hT1 (bCv hil (by simp [hr]))
     subst hT
     generalize l[i]=x at g hread
     repeat' first|refine sY ⟨?_⟩|(refine sq ?_ ?_<;>refine λh=>⟨?_⟩<;>(first|contradiction|(exfalso;omega)|skip))|fail
     rintro _ ⟨p,q,rfl,_⟩
     repeat' first|refine sY ⟨?_⟩|(refine sq ?_ ?_<;>refine λh=>⟨?_⟩<;>(first|contradiction|(exfalso;omega)|skip))|fail
     all_goals (conv=>whnf)
     all_goals rfl
   · rw [hr] at hread
     have hx:=aVj hil ha (by simp [hr])
     generalize l[i]=x at g hread
     repeat' first|refine sY ⟨?_⟩|(refine sq ?_ ?_<;>refine λh=>⟨?_⟩<;>(first|contradiction|(exfalso;omega)|skip))|fail
     rintro _ ⟨p,q,rfl,_⟩
     repeat' first|refine sY ⟨?_⟩|(refine sq ?_ ?_<;>refine λh=>⟨?_⟩<;>(first|contradiction|(exfalso;omega)|skip))|fail
     all_goals exact ⟨[0],l.length - (i+1),rfl,by omega,i+1,by omega,rfl,hx,rfl⟩
 · rw [List.take_of_length_le (by omega)] at ha
   have hT:=hT2 ha
   subst hT
   repeat' first|refine sY ⟨?_⟩|(refine sq ?_ ?_<;>refine λh=>⟨?_⟩<;>(first|contradiction|(exfalso;omega)|skip))|fail
   all_goals (conv=>whnf)
   all_goals rfl
def bLo (bs:List Bd) (x:Nd):List Int×List ByteArray:=match bs.find? λb=>decide (b.name=x.name) with
 |some b=>(b.shape,b.data)
 |none=>([],[])
theorem bVt {bs:List Bd}{x:Nd}(h:aDx bs x=true):aEv (bLo bs x).1 (bLo bs x).2=aAs x.shape (bdB bs x):=by
 rcases aNd bs x.name with ⟨hf,_⟩|⟨k,hk,hf,_,_⟩
 · rw [aDx,hf] at h;cases h
 · have hb:=@bTp bs x k hk hf
   rw [aDx,hf] at h
   simp only [Bool.and_eq_true,decide_eq_true_eq] at h
   obtain ⟨_,hd⟩:=hb h
   rw [bLo,hf]
   dsimp only
   rw [aAs,aEv,aAj,<-hd,h.2]
set_option maxHeartbeats 4000000 in
theorem bDp (bs:List Bd) (x:Nd) (hbl:bs.length<=1000) (hbs:∀b∈bs,b.Sm) (hx:x.Sm):aAc Tryz.prog GL 58 [.agg x.cells,.ro 3 (aA5 bs)]
 (λy=>y= .tup [aEv (bLo bs x).1 (bLo bs x).2,.bool (aDx bs x)]):=by
 have hbr:=aBk bs
 have hxs:=hx.shape
 refine aAc.taken ?_
 rcases aNd bs x.name with ⟨hf,hall⟩|⟨k,hk,hf,hn,hall⟩
 · rw [show bLo bs x=([],[]) by rw [bLo,hf],show aDx bs x=false by rw [aDx,hf]]
   clear hf hbs
   obtain ⟨op,A,B,name,s,kk,n,d⟩:=x
   dsimp only at hall ⊢
   refine aAa aFs HM Tryz.func58 rfl (by decide +kernel) (by decide +kernel) rfl ?_
   repeat' first|refine sY ⟨?_⟩|(refine sq ?_ ?_<;>refine λh=>⟨?_⟩<;>(first|contradiction|(exfalso;omega)|skip))|fail
   refine ⟨[1,2,4,6],[0,1],λm st=>∃i:Nat,i<=bs.length/\m=bs.length - i/\st=⟨[(1,.ro 3 (aA5 bs)),(2,.bptr 0 0),(4,.bptr 1 0),(6,.int .i64 (i:Nat))],
    [.box 25 [.str op,.int .i64 A,.int .i64 B,.str name,.ro 1 (aAh s),.str kk,.int .i64 n,.ro 1 (aCm d)],.box 27 [.nils,.nils]]⟩,rfl,⟨bs.length,0,by omega,rfl,rfl⟩,?_⟩
   rintro m _ ⟨i,hi,hm,rfl⟩
   rcases Nat.lt_or_ge i bs.length with hil|hge
   · have gi:=aDs hil
     have hne:=hall i hil
     generalize bs[i]=c at gi hne
     obtain ⟨cn,csh,cda⟩:=c
     dsimp only at hne
     repeat' first|refine sY ⟨?_⟩|(refine sq ?_ ?_<;>refine λh=>⟨?_⟩<;>(first|contradiction|(exfalso;omega)|skip))|fail
     refine ⟨by decide +kernel,[0,0,3,7,15,0,32,127],by decide +kernel,?_⟩
     repeat' first|refine sY ⟨?_⟩|(refine sq ?_ ?_<;>refine λh=>⟨?_⟩<;>(first|contradiction|(exfalso;omega)|skip))|fail
     all_goals exact ⟨[0,1],bs.length - (i+1),rfl,by omega,i+1,by omega,rfl,rfl⟩
   · repeat' first|refine sY ⟨?_⟩|(refine sq ?_ ?_<;>refine λh=>⟨?_⟩<;>(first|contradiction|(exfalso;omega)|skip))|fail
     all_goals (conv=>whnf)
     all_goals exact ⟨_,aAf (aFo (show aC7 .nils (.ro 1 []) from ⟨1,rfl⟩) (show aC7 .nils (.ro 1 []) from ⟨1,rfl⟩)) rfl,rfl⟩
 · rw [show bLo bs x=(bs[k].shape,bs[k].data) by rw [bLo,hf],show aDx bs x=(okT bs[k].shape bs[k].data && decide (bs[k].shape=x.shape)) by rw [aDx,hf]]
   have hb:=hbs bs[k] (List.getElem_mem hk)
   have hR:=bDj bs[k].shape bs[k].data hb.shape hb.data (λd hd=>Nat.lt_of_le_of_lt (hb.each d hd) (by decide))
   have hS:=aDh GL bs[k].shape x.shape (by have:=hb.shape;omega) (by omega)
   have g:=aDs hk
   clear hf hb hbs
   generalize bs[k]=b at g hR hS hn ⊢
   obtain ⟨bn,bsh,bda⟩:=b
   obtain ⟨op,A,B,name,s,kk,n,d⟩:=x
   dsimp only at hR hS hn hall ⊢
   unfold aEv at hR ⊢
   cases hT:okT bsh bda
   · rw [hT] at hR
     refine aAa aFs HM Tryz.func58 rfl (by decide +kernel) (by decide +kernel) rfl ?_
     repeat' first|refine sY ⟨?_⟩|(refine sq ?_ ?_<;>refine λh=>⟨?_⟩<;>(first|contradiction|(exfalso;omega)|skip))|fail
     refine ⟨[1,2,4,6],[0,1],λm st=>∃i:Nat,i<=k/\m=k - i/\st=⟨[(1,.ro 3 (aA5 bs)),(2,.bptr 0 0),(4,.bptr 1 0),(6,.int .i64 (i:Nat))],
      [.box 25 [.str op,.int .i64 A,.int .i64 B,.str name,.ro 1 (aAh s),.str kk,.int .i64 n,.ro 1 (aCm d)],.box 27 [.nils,.nils]]⟩,rfl,⟨k,0,by omega,rfl,rfl⟩,?_⟩
     rintro m _ ⟨i,hi,hm,rfl⟩
     rcases Nat.lt_or_ge i k with hik|hge
     · have gi:=aDs (show i<bs.length by omega)
       have hne:=hall i (by omega) hik
       generalize bs[i]=c at gi hne
       obtain ⟨cn,csh,cda⟩:=c
       dsimp only at hne
       repeat' first|refine sY ⟨?_⟩|(refine sq ?_ ?_<;>refine λh=>⟨?_⟩<;>(first|contradiction|(exfalso;omega)|skip))|fail
       refine ⟨by decide +kernel,[0,0,3,7,15,0,32,127],by decide +kernel,?_⟩
       repeat' first|refine sY ⟨?_⟩|(refine sq ?_ ?_<;>refine λh=>⟨?_⟩<;>(first|contradiction|(exfalso;omega)|skip))|fail
       all_goals exact ⟨[0,1],k - (i+1),rfl,by omega,i+1,by omega,rfl,rfl⟩
     · obtain rfl:i=k:=by omega
       repeat' first|refine sY ⟨?_⟩|(refine sq ?_ ?_<;>refine λh=>⟨?_⟩<;>(first|contradiction|(exfalso;omega)|skip))|fail
       refine ⟨by decide +kernel,[0,0,3,7,15,0,32,127],by decide +kernel,?_⟩
       repeat' first|refine sY ⟨?_⟩|(refine sq ?_ ?_<;>refine λh=>⟨?_⟩<;>(first|contradiction|(exfalso;omega)|skip))|fail
       refine ⟨by decide +kernel,[0,0,3,7,15,0,0,96,224,480,992,2016,4064,4064,16352,32736,65504,131040,4064,266208,1048544,2097120,2097151,8388607],by decide +kernel,?_⟩
       repeat' first|refine sY ⟨?_⟩|(refine sq ?_ ?_<;>refine λh=>⟨?_⟩<;>(first|contradiction|(exfalso;omega)|skip))|fail
       all_goals (conv=>whnf)
       all_goals exact ⟨_,aAf (aFo rfl rfl) rfl,rfl⟩
   rw [hT] at hR
   by_cases h2:bsh=s
   · rw [decide_eq_true h2] at hS ⊢
     refine aAa aFs HM Tryz.func58 rfl (by decide +kernel) (by decide +kernel) rfl ?_
     repeat' first|refine sY ⟨?_⟩|(refine sq ?_ ?_<;>refine λh=>⟨?_⟩<;>(first|contradiction|(exfalso;omega)|skip))|fail
     refine ⟨[1,2,4,6],[0,1],λm st=>∃i:Nat,i<=k/\m=k - i/\st=⟨[(1,.ro 3 (aA5 bs)),(2,.bptr 0 0),(4,.bptr 1 0),(6,.int .i64 (i:Nat))],
      [.box 25 [.str op,.int .i64 A,.int .i64 B,.str name,.ro 1 (aAh s),.str kk,.int .i64 n,.ro 1 (aCm d)],.box 27 [.nils,.nils]]⟩,rfl,⟨k,0,by omega,rfl,rfl⟩,?_⟩
     rintro m _ ⟨i,hi,hm,rfl⟩
     rcases Nat.lt_or_ge i k with hik|hge
     · have gi:=aDs (show i<bs.length by omega)
       have hne:=hall i (by omega) hik
       generalize bs[i]=c at gi hne
       obtain ⟨cn,csh,cda⟩:=c
       dsimp only at hne
       repeat' first|refine sY ⟨?_⟩|(refine sq ?_ ?_<;>refine λh=>⟨?_⟩<;>(first|contradiction|(exfalso;omega)|skip))|fail
       refine ⟨by decide +kernel,[0,0,3,7,15,0,32,127],by decide +kernel,?_⟩
       repeat' first|refine sY ⟨?_⟩|(refine sq ?_ ?_<;>refine λh=>⟨?_⟩<;>(first|contradiction|(exfalso;omega)|skip))|fail
       all_goals exact ⟨[0,1],k - (i+1),rfl,by omega,i+1,by omega,rfl,rfl⟩
     · obtain rfl:i=k:=by omega
       repeat' first|refine sY ⟨?_⟩|(refine sq ?_ ?_<;>refine λh=>⟨?_⟩<;>(first|contradiction|(exfalso;omega)|skip))|fail
       refine ⟨by decide +kernel,[0,0,3,7,15,0,32,127],by decide +kernel,?_⟩
       repeat' first|refine sY ⟨?_⟩|(refine sq ?_ ?_<;>refine λh=>⟨?_⟩<;>(first|contradiction|(exfalso;omega)|skip))|fail
       refine ⟨by decide +kernel,[0,0,3,7,15,0,0,96,224,480,992,2016,4064,4064,16352,32736,65504,131040,4064,266208,1048544,2097120,2097151,8388607],by decide +kernel,?_⟩
       repeat' first|refine sY ⟨?_⟩|(refine sq ?_ ?_<;>refine λh=>⟨?_⟩<;>(first|contradiction|(exfalso;omega)|skip))|fail
       all_goals (conv=>whnf)
       all_goals exact ⟨_,aAf (aFo rfl rfl) rfl,rfl⟩
   · rw [decide_eq_false h2] at hS ⊢
     refine aAa aFs HM Tryz.func58 rfl (by decide +kernel) (by decide +kernel) rfl ?_
     repeat' first|refine sY ⟨?_⟩|(refine sq ?_ ?_<;>refine λh=>⟨?_⟩<;>(first|contradiction|(exfalso;omega)|skip))|fail
     refine ⟨[1,2,4,6],[0,1],λm st=>∃i:Nat,i<=k/\m=k - i/\st=⟨[(1,.ro 3 (aA5 bs)),(2,.bptr 0 0),(4,.bptr 1 0),(6,.int .i64 (i:Nat))],
      [.box 25 [.str op,.int .i64 A,.int .i64 B,.str name,.ro 1 (aAh s),.str kk,.int .i64 n,.ro 1 (aCm d)],.box 27 [.nils,.nils]]⟩,rfl,⟨k,0,by omega,rfl,rfl⟩,?_⟩
     rintro m _ ⟨i,hi,hm,rfl⟩
     rcases Nat.lt_or_ge i k with hik|hge
     · have gi:=aDs (show i<bs.length by omega)
       have hne:=hall i (by omega) hik
       generalize bs[i]=c at gi hne
       obtain ⟨cn,csh,cda⟩:=c
       dsimp only at hne
       repeat' first|refine sY ⟨?_⟩|(refine sq ?_ ?_<;>refine λh=>⟨?_⟩<;>(first|contradiction|(exfalso;omega)|skip))|fail
       refine ⟨by decide +kernel,[0,0,3,7,15,0,32,127],by decide +kernel,?_⟩
       repeat' first|refine sY ⟨?_⟩|(refine sq ?_ ?_<;>refine λh=>⟨?_⟩<;>(first|contradiction|(exfalso;omega)|skip))|fail
       all_goals exact ⟨[0,1],k - (i+1),rfl,by omega,i+1,by omega,rfl,rfl⟩
     · obtain rfl:i=k:=by omega
       repeat' first|refine sY ⟨?_⟩|(refine sq ?_ ?_<;>refine λh=>⟨?_⟩<;>(first|contradiction|(exfalso;omega)|skip))|fail
       refine ⟨by decide +kernel,[0,0,3,7,15,0,32,127],by decide +kernel,?_⟩
       repeat' first|refine sY ⟨?_⟩|(refine sq ?_ ?_<;>refine λh=>⟨?_⟩<;>(first|contradiction|(exfalso;omega)|skip))|fail
       refine ⟨by decide +kernel,[0,0,3,7,15,0,0,96,224,480,992,2016,4064,4064,16352,32736,65504,131040,4064,266208,1048544,2097120,2097151,8388607],by decide +kernel,?_⟩
       repeat' first|refine sY ⟨?_⟩|(refine sq ?_ ?_<;>refine λh=>⟨?_⟩<;>(first|contradiction|(exfalso;omega)|skip))|fail
       all_goals (conv=>whnf)
       all_goals exact ⟨_,aAf (aFo rfl rfl) rfl,rfl⟩
theorem aUn {bd:Nd->List Rat}{l:List Nd}{i:Nat}{c:List AV}(h:tcE bd l i=c):aCj bd l (i+1)=List.take (aCj bd l i).length (aCj bd l i)++[c]:=by
 rw [List.take_length,aNl,h]
theorem bAt {bd:Nd->List Rat}{l:List Nd}{c:List AV}(h:tcE bd l 0=c):aCj bd l (0+1)=[c]:=by
 rw [aNl,h];rfl
set_option maxHeartbeats 8000000 in
theorem bMg (bs:List Bd) (g:Gr) (hok:aC1 g=true) (hs:∀x∈g.nodes,x.Sm) (hl:g.nodes.length<=1000) (hbl:bs.length<=1000) (hbs:∀b∈bs,b.Sm) (hG:aG8 (bdB bs) g.nodes):
 aAc Tryz.prog GL 29 [.agg g.cells,.ro 3 (aA5 bs)]
  (λy=>y=if aCt bs g.nodes=true then .tup [.ro 2 (aCj (bdB bs) g.nodes g.nodes.length),.bool true] else .tup [.ro 2 [],.bool false]):=by
 refine aAc.taken ?_
 obtain ⟨h1,h2,q,hq1,hq⟩:=aMd hok
 have hpt:=λ{i:Nat} {x:Nd}=>@aT2 (bdB bs) g hok hG i x
 have hbv:=λ{i:Nat} {x:Nd}=>@bTq bs g hok i x
 have hgx:∀i (h:i<g.nodes.length),g.nodes[i]? =some g.nodes[i]:=λi h=>List.getElem?_eq_getElem h
 have hbo:=λi (h:i<g.nodes.length)=>bDp bs g.nodes[i] hbl hbs (hs _ (List.getElem_mem h))
 have hbt:=λi (h:i<g.nodes.length)=>@bVt bs g.nodes[i]
 have hbad:∀i (h:i<g.nodes.length),g.nodes[i].name≠⟨#[]⟩->aDx bs g.nodes[i]=false->aCt bs g.nodes=false:=λi h h1 h2=>List.all_eq_false.2 ⟨_,List.getElem_mem h,by simp [h1,h2]⟩
 have hgood:(∀ i (h:i<g.nodes.length),g.nodes[i].name≠⟨#[]⟩->aDx bs g.nodes[i]=true)->aCt bs g.nodes=true:=λh=>List.all_eq_true.2 λx hx=>by
  obtain ⟨k,hk,rfl⟩:=List.getElem_of_mem hx
  by_cases hn:g.nodes[k].name=⟨#[]⟩
  · simp [hn]
  · simp [h k hk hn]
 generalize aCt bs g.nodes=T at hbad hgood ⊢
 have hY1:T=true->(if T=true then AV.tup [.ro 2 (aCj (bdB bs) g.nodes g.nodes.length),.bool true] else .tup [.ro 2 [],.bool false])= .tup [.ro 2 (aCj (bdB bs) g.nodes g.nodes.length),.bool true]:=λh=>if_pos h
 have hY2:T=false->(if T=true then AV.tup [.ro 2 (aCj (bdB bs) g.nodes g.nodes.length),.bool true] else .tup [.ro 2 [],.bool false])= .tup [.ro 2 [],.bool false]:=λh=>if_neg (by simp [h])
 generalize (if T=true then AV.tup [.ro 2 (aCj (bdB bs) g.nodes g.nodes.length),.bool true] else .tup [.ro 2 [],.bool false])=Z at hY1 hY2 ⊢
 generalize hbd:bdB bs=bd at*
 clear hG hok hbd
 obtain ⟨l,p⟩:=g
 dsimp only at*
 show aAc _ _ _ [.agg [.ro 8 (aAv l),.int .i64 p],_] _
 have hlr:=rowN_length l
 have hbr:=aBk bs
 have hGL:∀i (h:i<l.length),aBv l (i:Nat)=l[i].shape:=λi h=>aAp h
 refine aAa bB2 HM Tryz.func29 rfl (by decide +kernel) (by decide +kernel) rfl ?_
 repeat' first|refine sY ⟨?_⟩|(refine sq ?_ ?_<;>refine λh=>⟨?_⟩<;>(first|contradiction|(exfalso;omega)|skip))|fail
 refine ⟨[1,2,6,7],[0],λm st=>∃i:Nat,i<=l.length/\m=l.length - i/\(∀ j (h:j<l.length),j<i->l[j].name≠⟨#[]⟩->aDx bs l[j]=true)/\
  ((i=0/\st=⟨[(1,.ro 3 (aA5 bs)),(2,.bptr 0 0),(6,.nils),(7,.int .i64 (i:Nat))],[.box 31 [.ro 8 (aAv l),.int .i64 p]]⟩)\/
  (0<i/\st=⟨[(1,.ro 3 (aA5 bs)),(2,.bptr 0 0),(6,.own 1 0 (aCj bd l i).length),(7,.int .i64 (i:Nat))],[.box 31 [.ro 8 (aAv l),.int .i64 p],.row false 27 2 (aCj bd l i)]⟩)),rfl,⟨l.length,0,by omega,rfl,λj h h0=>absurd h0 (Nat.not_lt_zero _),.inl ⟨rfl,rfl⟩⟩,?_⟩
 rintro m _ ⟨i,hi,hm,hall,hst⟩
 have htl:=aC0 bd l i
 rcases Nat.lt_or_ge i l.length with hil|hge
 · have hx:=hgx i hil
   have g1:=aB1 hil
   have hc:∀V,aAk bd l i=V->tcE bd l i=[.ro 1 (aAh l[i].shape),.ro 1 (aAj V)]:=λV h=>by rw [tcE,hGL i hil,h]
   have hnx:(l[i].name≠⟨#[]⟩->aDx bs l[i]=true)->∀j (h:j<l.length),j<i+1->l[j].name≠⟨#[]⟩->aDx bs l[j]=true:=λh j hj hji=>(Nat.lt_succ_iff_lt_or_eq.1 hji).elim (hall j hj) (λe=>by subst e;exact h)
   have hb:=hbo i hil
   have hbt:=hbt i hil
   have hbd:=hbad i hil
   by_cases hn:l[i].name=⟨#[]⟩
   · have hnx:=hnx λh=>absurd hn h
     obtain ⟨o,ho,p1,q1,hp,hq',hcase⟩:=hpt hx hn
     have hsn:=aUn (hc _ rfl)
     have hone:i=0->aCj bd l (0+1)=[[.ro 1 (aAh l[i].shape),.ro 1 (aAj (aAk bd l i))]]:=λh=>by subst h;exact bAt (hc _ rfl)
     clear hc hb hbt hbd hx
     generalize aAk bd l i=V at hsn hone hcase
     generalize l[i]=x at g1 hsn hone hn ho hp hq' hcase
     obtain ⟨op,A,B,name,s,k,n,d⟩:=x
     dsimp only at hsn hone hn ho hp hq' hcase
     subst hn ho hp hq'
     by_cases hcs:o= .const
     · subst hcs
       have hfit:FitV .const s k n d [] [] [] [] V:=by
        rcases hcase with ⟨_,_,_,_,h⟩|⟨_,_,h⟩
        · exact h
        · exact h.any (λh=>absurd h (by decide)) (λh=>absurd h (by decide))
       have hv:=bEz (p1:Int) (q1:Int) ⟨#[]⟩ hfit
       unfold aBn aAs at hv
       clear hcase
       rcases hst with ⟨rfl,rfl⟩|⟨h0,rfl⟩
       · have hone:=hone rfl
         repeat' first|refine sY ⟨?_⟩|(refine sq ?_ ?_<;>refine λh=>⟨?_⟩<;>(first|contradiction|(exfalso;omega)|skip))|fail
         conv=>whnf
         refine ⟨Nat.le_of_ble_eq_true rfl,λh=>Nat.succ_ne_zero _ (congrArg List.length h),?_⟩
         repeat' first|refine sY ⟨?_⟩|(refine sq ?_ ?_<;>refine λh=>⟨?_⟩<;>(first|contradiction|(exfalso;omega)|skip))|fail
         all_goals exact ⟨[0,5],l.length - (0+1),rfl,by omega,0+1,by omega,rfl,hnx,.inr ⟨by omega,Eq.trans rfl (congrArg (λz:List (List AV)=>(⟨[(1,.ro 3 (aA5 bs)),(2,.bptr 0 0),(6,.own 1 0 z.length),(7,.int .i64 ((0+1:Nat):Int))],[.box 31 [.ro 8 (aAv l),.int .i64 p],.row false 27 2 z]⟩:St)) hone.symm)⟩⟩
       · repeat' first|refine sY ⟨?_⟩|(refine sq ?_ ?_<;>refine λh=>⟨?_⟩<;>(first|contradiction|(exfalso;omega)|skip))|fail
         refine ⟨Nat.le_refl _,(show ((aCj bd l i).length+1)*48<=140737488355328 by omega),_,hsn,?_⟩
         repeat' first|refine sY ⟨?_⟩|(refine sq ?_ ?_<;>refine λh=>⟨?_⟩<;>(first|contradiction|(exfalso;omega)|skip))|fail
         all_goals exact ⟨[0,6],l.length - (i+1),rfl,by omega,i+1,by omega,rfl,hnx,.inr ⟨by omega,rfl⟩⟩
     · have hne:¬o.str=aA0:=λe=>hcs (aRt (o':=.const) e)
       obtain ⟨hp2,hq2,hfit⟩:p1<i/\q1<i/\FitV o s k n d (aBv l (p1:Nat)) (aAk bd l p1) (aBv l (q1:Nat)) (aAk bd l q1) V:=by
        rcases hcase with ⟨_,_,_,h,_⟩|h
        · exact absurd h hne
        · exact h
       have hv:=bEz (p1:Int) (q1:Int) ⟨#[]⟩ hfit
       unfold aBn aAs at hv
       have ga:(aCj bd l i)[0+p1]? =some [.ro 1 (aAh (aBv l (p1:Nat))),.ro 1 (aAj (aAk bd l p1))]:=by rw [Nat.zero_add];exact aD1 hp2
       have gb:(aCj bd l i)[0+q1]? =some [.ro 1 (aAh (aBv l (q1:Nat))),.ro 1 (aAj (aAk bd l q1))]:=by rw [Nat.zero_add];exact aD1 hq2
       clear hcase hfit hcs
       generalize o.str=op at*
       rcases hst with ⟨rfl,rfl⟩|⟨h0,rfl⟩
       · exact absurd hp2 (Nat.not_lt_zero _)
       · repeat' first|refine sY ⟨?_⟩|(refine sq ?_ ?_<;>refine λh=>⟨?_⟩<;>(first|contradiction|(exfalso;omega)|skip))|fail
         refine ⟨by decide +kernel,[0,0,2,7,15,0,0,64,224,480,31,2047],by decide +kernel,?_⟩
         repeat' first|refine sY ⟨?_⟩|(refine sq ?_ ?_<;>refine λh=>⟨?_⟩<;>(first|contradiction|(exfalso;omega)|skip))|fail
         refine ⟨Nat.le_refl _,(show ((aCj bd l i).length+1)*48<=140737488355328 by omega),_,hsn,?_⟩
         repeat' first|refine sY ⟨?_⟩|(refine sq ?_ ?_<;>refine λh=>⟨?_⟩<;>(first|contradiction|(exfalso;omega)|skip))|fail
         all_goals exact ⟨[0,6],l.length - (i+1),rfl,by omega,i+1,by omega,rfl,hnx,.inr ⟨by omega,rfl⟩⟩
   · have hv:=hbv hx hn
     have hsn:=aUn (hc _ hv)
     have hone:i=0->aCj bd l (0+1)=[[.ro 1 (aAh l[i].shape),.ro 1 (aAj (bd l[i]))]]:=λh=>by subst h;exact bAt (hc _ hv)
     have hbd:=hbd hn
     clear hc hv hx
     generalize bd l[i]=V at hsn hone hbt
     generalize (bLo bs l[i]).1=S at hb hbt
     generalize (bLo bs l[i]).2=D at hb hbt
     generalize aDx bs l[i]=ok at hb hbd hnx hbt
     generalize l[i]=x at g1 hsn hone hn hb hnx hbt
     obtain ⟨op,A,B,name,s,k,n,d⟩:=x
     dsimp only at hsn hone hn hb hbt
     cases ok
     · have hT:=hY2 (hbd rfl)
       unfold aEv at hb
       rcases hst with ⟨rfl,rfl⟩|⟨h0,rfl⟩
       · repeat' first|refine sY ⟨?_⟩|(refine sq ?_ ?_<;>refine λh=>⟨?_⟩<;>(first|contradiction|(exfalso;omega)|skip))|fail
         all_goals (conv=>whnf)
         all_goals exact ⟨_,aAf (show aC7 .nils (.ro 2 []) from ⟨2,rfl⟩) rfl,hT.symm⟩
       · repeat' first|refine sY ⟨?_⟩|(refine sq ?_ ?_<;>refine λh=>⟨?_⟩<;>(first|contradiction|(exfalso;omega)|skip))|fail
         all_goals (conv=>whnf)
         all_goals exact ⟨_,aAf (show aC7 .nils (.ro 2 []) from ⟨2,rfl⟩) rfl,hT.symm⟩
     · rw [hbt rfl] at hb
       have hnx:=hnx λ_=>rfl
       unfold aAs at hb
       rcases hst with ⟨rfl,rfl⟩|⟨h0,rfl⟩
       · have hone:=hone rfl
         repeat' first|refine sY ⟨?_⟩|(refine sq ?_ ?_<;>refine λh=>⟨?_⟩<;>(first|contradiction|(exfalso;omega)|skip))|fail
         conv=>whnf
         refine ⟨Nat.le_of_ble_eq_true rfl,λh=>Nat.succ_ne_zero _ (congrArg List.length h),?_⟩
         repeat' first|refine sY ⟨?_⟩|(refine sq ?_ ?_<;>refine λh=>⟨?_⟩<;>(first|contradiction|(exfalso;omega)|skip))|fail
         all_goals exact ⟨[0,4],l.length - (0+1),rfl,by omega,0+1,by omega,rfl,hnx,.inr ⟨by omega,Eq.trans rfl (congrArg (λz:List (List AV)=>(⟨[(1,.ro 3 (aA5 bs)),(2,.bptr 0 0),(6,.own 1 0 z.length),(7,.int .i64 ((0+1:Nat):Int))],[.box 31 [.ro 8 (aAv l),.int .i64 p],.row false 27 2 z]⟩:St)) hone.symm)⟩⟩
       · repeat' first|refine sY ⟨?_⟩|(refine sq ?_ ?_<;>refine λh=>⟨?_⟩<;>(first|contradiction|(exfalso;omega)|skip))|fail
         refine ⟨Nat.le_refl _,(show ((aCj bd l i).length+1)*48<=140737488355328 by omega),_,hsn,?_⟩
         repeat' first|refine sY ⟨?_⟩|(refine sq ?_ ?_<;>refine λh=>⟨?_⟩<;>(first|contradiction|(exfalso;omega)|skip))|fail
         all_goals exact ⟨[0,5],l.length - (i+1),rfl,by omega,i+1,by omega,rfl,hnx,.inr ⟨by omega,rfl⟩⟩
 · have hl2:i=l.length:=by omega
   subst hl2
   have hT:=hY1 (hgood λj h=>hall j h h)
   rcases hst with ⟨h0,rfl⟩|⟨h0,rfl⟩
   · omega
   · repeat' first|refine sY ⟨?_⟩|(refine sq ?_ ?_<;>refine λh=>⟨?_⟩<;>(first|contradiction|(exfalso;omega)|skip))|fail
     all_goals (conv=>whnf)
     all_goals exact ⟨_,aAf rfl rfl,hT.symm⟩
end Go.V
namespace Go.V
open Go.N Go.Proofs
set_option maxRecDepth 20000
def bQf:Tab:=[(23,i23),(9,i9),(3,i3)]
theorem aTl:TOK Tryz.prog bQf:=⟨K23,⟨K9,⟨K3,trivial⟩⟩⟩
def bB7:Tab:=[(23,i23),(9,i9),(3,i3)]
theorem aLh:TOK Tryz.prog bB7:=⟨K23,⟨K9,⟨K3,trivial⟩⟩⟩
def bVd:Tab:=[(27,i27),(4,i4),(23,i23),(9,i9)]
theorem bKf:TOK Tryz.prog bVd:=⟨K27,⟨K4,⟨K23,⟨K9,trivial⟩⟩⟩⟩
def aYs:Tab:=[(31,i31),(29,i29),(25,i25),(3,i3),(54,i54),(27,i27),(23,i23),(9,i9)]
theorem aSq:TOK Tryz.prog aYs:=⟨K31,⟨K29,⟨K25,⟨K3,⟨K54,⟨K27,⟨K23,⟨K9,trivial⟩⟩⟩⟩⟩⟩⟩⟩
def bKx:Tab:=[(31,i31),(41,i41),(52,i52),(34,i34),(29,i29),(25,i25),(3,i3),(54,i54),(27,i27),(9,i9)]
theorem aKy:TOK Tryz.prog bKx:=⟨K31,⟨K41,⟨K52,⟨K34,⟨K29,⟨K25,⟨K3,⟨K54,⟨K27,⟨K9,trivial⟩⟩⟩⟩⟩⟩⟩⟩⟩⟩
theorem bEx (l:List ByteArray) (x:ByteArray) (r:Int) (hl:l.length<=1000)
 (hr:(∃ k:Nat,∃h:k<l.length,r=k/\l[k]=x/\∀j (h:j<l.length),j<k->¬x=l[j])\/(r= -1/\∀j (h:j<l.length),¬x=l[j])):
 aAc Tryz.prog GL 161 [.ro 1 (aCm l),.str x] (λy=>y= .int .i64 r):=by
 have hlr:=rowS_length l
 rcases hr with ⟨k,hk,rfl,hx,hall⟩|⟨rfl,hall⟩
 · refine aAa aTl HM Tryz.func161 rfl (by decide +kernel) (by decide +kernel) rfl ?_
   repeat' first|refine sY ⟨?_⟩|(refine sq ?_ ?_<;>refine λh=>⟨?_⟩<;>(first|contradiction|(exfalso;omega)|skip))|fail
   refine ⟨[0,1,7,8],[],λm st=>∃i:Nat,i<=k/\m=k - i/\st=⟨[(0,.ro 1 (aCm l)),(1,.str x),(7,.int .i64 ((aCm l).length:Nat)),(8,.int .i64 (i:Nat))],[]⟩,rfl,⟨k,0,by omega,rfl,rfl⟩,?_⟩
   rintro m _ ⟨i,hi,hm,rfl⟩
   have g:=aCd (show i<l.length by omega)
   rcases Nat.lt_or_ge i k with hik|hge
   · have hne:=hall i (by omega) hik
     generalize l[i]=y at g hne
     repeat' first|refine sY ⟨?_⟩|(refine sq ?_ ?_<;>refine λh=>⟨?_⟩<;>(first|contradiction|(exfalso;omega)|skip))|fail
     all_goals exact ⟨[],k - (i+1),rfl,by omega,i+1,by omega,rfl,rfl⟩
   · obtain rfl:i=k:=by omega
     rw [hx] at g
     repeat' first|refine sY ⟨?_⟩|(refine sq ?_ ?_<;>refine λh=>⟨?_⟩<;>(first|contradiction|(exfalso;omega)|skip))|fail
     all_goals (conv=>whnf)
     all_goals rfl
 · refine aAa aTl HM Tryz.func161 rfl (by decide +kernel) (by decide +kernel) rfl ?_
   repeat' first|refine sY ⟨?_⟩|(refine sq ?_ ?_<;>refine λh=>⟨?_⟩<;>(first|contradiction|(exfalso;omega)|skip))|fail
   refine ⟨[0,1,7,8],[],λm st=>∃i:Nat,i<=l.length/\m=l.length - i/\st=⟨[(0,.ro 1 (aCm l)),(1,.str x),(7,.int .i64 ((aCm l).length:Nat)),(8,.int .i64 (i:Nat))],[]⟩,rfl,⟨l.length,0,by omega,rfl,rfl⟩,?_⟩
   rintro m _ ⟨i,hi,hm,rfl⟩
   rcases Nat.lt_or_ge i l.length with hik|hge
   · have g:=aCd hik
     have hne:=hall i hik
     generalize l[i]=y at g hne
     repeat' first|refine sY ⟨?_⟩|(refine sq ?_ ?_<;>refine λh=>⟨?_⟩<;>(first|contradiction|(exfalso;omega)|skip))|fail
     all_goals exact ⟨[],l.length - (i+1),rfl,by omega,i+1,by omega,rfl,rfl⟩
   · repeat' first|refine sY ⟨?_⟩|(refine sq ?_ ?_<;>refine λh=>⟨?_⟩<;>(first|contradiction|(exfalso;omega)|skip))|fail
     all_goals (conv=>whnf)
     all_goals rfl
theorem bSa {α:Type}(p:α->Prop) (l:List α):(∃ k,∃h:k<l.length,p l[k]/\∀j (h:j<l.length),j<k->¬p l[j])\/(∀ j (h:j<l.length),¬p l[j]):=by
 induction l with
 |nil=>exact .inr λj h=>absurd h (Nat.not_lt_zero _)
 |cons x l ih=>
  by_cases hx:p x
  · exact .inl ⟨0,by simp,hx,λj _ h=>absurd h (Nat.not_lt_zero _)⟩
  · rcases ih with ⟨k,hk,h1,h2⟩|h
    · refine .inl ⟨k+1,by simp;omega,h1,λj hj hjk=>?_⟩
      rcases j with _|j
      · exact hx
      · exact h2 j (by simp at hj;omega) (by omega)
    · refine .inr λj hj=>?_
      rcases j with _|j
      · exact hx
      · exact h j (by simp at hj;omega)
theorem bCx (l:List ByteArray) (x:ByteArray) (b:Bool) (hl:l.length<=1000) (hb:b=true↔x∈l):
 aAc Tryz.prog GL 105 [.ro 1 (aCm l),.str x] (λy=>y= .bool b):=by
 rcases bSa (λy=>x=y) l with ⟨k,hk,h1,h2⟩|h
 · have hi:=bEx l x (k:Nat) hl (.inl ⟨k,hk,rfl,h1.symm,h2⟩)
   have hb:b=true:=hb.2 (by rw [h1];exact List.getElem_mem hk)
   subst hb
   refine aAa aLh HM Tryz.func105 rfl (by decide +kernel) (by decide +kernel) rfl ?_
   repeat' first|refine sY ⟨?_⟩|(refine sq ?_ ?_<;>refine λh=>⟨?_⟩<;>(first|contradiction|(exfalso;omega)|skip))|fail
   all_goals (conv=>whnf)
   all_goals rfl
 · have hi:=bEx l x (-1) hl (.inr ⟨rfl,h⟩)
   have hb:b=false:=by
    cases hbb:b
    · rfl
    · obtain ⟨k,hk,e⟩:=List.getElem_of_mem (hb.1 hbb)
      exact absurd e.symm (h k hk)
   subst hb
   refine aAa aLh HM Tryz.func105 rfl (by decide +kernel) (by decide +kernel) rfl ?_
   repeat' first|refine sY ⟨?_⟩|(refine sq ?_ ?_<;>refine λh=>⟨?_⟩<;>(first|contradiction|(exfalso;omega)|skip))|fail
   all_goals (conv=>whnf)
   all_goals rfl
theorem aO2 {x:Rat}:(⟨#[48]⟩:ByteArray)=aAw x↔x=0:=by
 rw [<- aCz,aW7];exact eq_comm
theorem bDf {s:List Int}{a:List Rat}(h:VT s a):aAc Tryz.prog GL 56 [aAs s a] (λy=>y= .tup [.bool (a.any λr=>decide (r=0)),.int .i64 0]):=by
 have hr:=aBp h
 have hl:=h.vl
 have hc:=bCx (a.map aAw) ⟨#[48]⟩ (a.any λr=>decide (r=0)) (by rw [List.length_map];omega) (by
  rw [List.any_eq_true,List.mem_map]
  constructor
  · rintro ⟨r,hr,h⟩
    exact ⟨r,hr,(aO2.2 (of_decide_eq_true h)).symm⟩
  · rintro ⟨r,hr,h⟩
    exact ⟨r,hr,decide_eq_true (aO2.1 h.symm)⟩)
 generalize (a.any λr=>decide (r=0))=b at hc ⊢
 unfold aAs aAj at hr ⊢
 refine aAa bKf HM Tryz.func56 rfl (by decide +kernel) (by decide +kernel) rfl ?_
 repeat' first|refine sY ⟨?_⟩|(refine sq ?_ ?_<;>refine λh=>⟨?_⟩<;>(first|contradiction|(exfalso;omega)|skip))|fail
 all_goals (conv=>whnf)
 all_goals rfl
noncomputable def kL (bd:Nd->List Rat) (l:List Nd) (x:Nd):List Rat:=
 if x.op=aMk\/x.op=bGj then aAk bd l x.a.toNat else if x.op=aXv then List.zipWith (λx y=>x - y) (aAk bd l x.a.toNat) (aAk bd l x.b.toNat) else []
noncomputable def aJa (bd:Nd->List Rat) (l:List Nd) (x:Nd):Bool:=(kL bd l x).any λr=>decide (r=0)
noncomputable def aTc (bd:Nd->List Rat) (l:List Nd):Bool:=l.any (aJa bd l)
theorem aT7 {bd:Nd->List Rat}{g:Gr}(hg:aC1 g=true) (G:aG8 bd g.nodes) (hvt:∀j x,g.nodes[j]? =some x->VT x.shape (aAk bd g.nodes j)){i:Nat}{x:Nd}(hx:g.nodes[i]? =some x):
 ∃p q:Nat,x.a=(p:Nat)/\x.b=(q:Nat)/\p<g.nodes.length/\q<g.nodes.length/\VT (aBv g.nodes (p:Nat)) (aAk bd g.nodes p)/\
  ((x.op=aMk/\kL bd g.nodes x=aAk bd g.nodes p)\/(x.op=bGj/\kL bd g.nodes x=aAk bd g.nodes p)\/
   (x.op=aXv/\kL bd g.nodes x=List.zipWith (λx y=>x - y) (aAk bd g.nodes p) (aAk bd g.nodes q)/\VT (aBv g.nodes (p:Nat)) (aAk bd g.nodes q)/\aBv g.nodes (q:Nat)=aBv g.nodes (p:Nat)/\VT (aBv g.nodes (p:Nat)) (List.zipWith (λx y=>x - y) (aAk bd g.nodes p) (aAk bd g.nodes q)))\/
   (¬x.op=aMk/\¬x.op=bGj/\¬x.op=aXv/\kL bd g.nodes x=[])):=by
 obtain ⟨o,ho,F⟩:=aIo hg hx
 have hpre:=(aMd hg).1
 obtain ⟨p,hp,hpl⟩:∃p:Nat,x.a=(p:Nat)/\p<g.nodes.length:=by
  rcases Nat.eq_zero_or_pos o.many with h0|h0
  · exact ⟨0,F.a0 h0,hpre⟩
  · obtain ⟨p,h1,h2,h3⟩:=aDq (F.ia h0);exact ⟨p,h1,h3⟩
 obtain ⟨q,hq,hql⟩:∃q:Nat,x.b=(q:Nat)/\q<g.nodes.length:=by
  rcases Nat.lt_or_ge o.many 2 with h0|h0
  · exact ⟨0,F.b0 h0,hpre⟩
  · obtain ⟨p,h1,h2,h3⟩:=aDq (F.ib h0);exact ⟨p,h1,h3⟩
 have hva:VT (aBv g.nodes (p:Nat)) (aAk bd g.nodes p):=by rw [aAp hpl];exact hvt p _ (List.getElem?_eq_getElem hpl)
 refine ⟨p,q,hp,hq,hpl,hql,hva,?_⟩
 by_cases h1:x.op=aMk
 · exact .inl ⟨h1,by rw [kL,if_pos (.inl h1),hp,Int.toNat_natCast]⟩
 by_cases h2:x.op=bGj
 · exact .inr (.inl ⟨h2,by rw [kL,if_pos (.inr h2),hp,Int.toNat_natCast]⟩)
 have h12:¬(x.op=aMk\/x.op=bGj):=λh=>h.elim h1 h2
 by_cases h3:x.op=aXv
 · have hm:=G i x .max hx h3 (by rw [h3];decide) _ _ _ _ (λ_=>⟨rfl,rfl⟩) (λ_=>⟨rfl,rfl⟩)
   rw [hp,hq,Int.toNat_natCast,Int.toNat_natCast] at hm
   generalize hv:aAk bd g.nodes i=V at hm
   generalize hsx:x.shape=s at hm
   generalize hA:aBv g.nodes (p:Nat)=sa at hm hva ⊢
   generalize hB:aBv g.nodes (q:Nat)=sb at hm ⊢
   generalize hva2:aAk bd g.nodes p=a at hm hva ⊢
   generalize hvb2:aAk bd g.nodes q=b at hm ⊢
   cases hm with
   |max ha hb hd hr=>
    refine .inr (.inr (.inl ⟨h3,by rw [kL,if_neg h12,if_pos h3,hp,hq,Int.toNat_natCast,Int.toNat_natCast,hva2,hvb2],hb,rfl,ha.ok,?_,λy hy=>?_⟩))
    · rw [List.length_zipWith]
      have:=ha.len;have:=hb.len
      omega
    · obtain ⟨j,hj,rfl⟩:=List.getElem_of_mem hy
      rw [List.getElem_zipWith]
      exact hd j (by rw [List.length_zipWith] at hj;omega)
 · exact .inr (.inr (.inr ⟨h1,h2,h3,by rw [kL,if_neg h12,if_neg h3]⟩))
set_option maxHeartbeats 8000000 in
theorem aZj {bd:Nd->List Rat}(g:Gr) (hg:aC1 g=true) (hl:g.nodes.length<=1000) (G:aG8 bd g.nodes) (hvt:∀j x,g.nodes[j]? =some x->VT x.shape (aAk bd g.nodes j)):
 aAc Tryz.prog GL 30 [.agg g.cells,.ro 2 (aCj bd g.nodes g.nodes.length)] (λy=>y= .bool (aTc bd g.nodes)):=by
 have hkp:=λ{i:Nat} {x:Nd}=>@aT7 bd g hg G hvt i x
 obtain ⟨l,p⟩:=g
 dsimp only at*
 show aAc _ _ _ [.agg [.ro 8 (aAv l),.int .i64 p],_] _
 have hlr:=rowN_length l
 have htl:=aC0 bd l l.length
 have hgt:=λ{j:Nat} (h:j<l.length)=>aD1 (bd:=bd) (l:=l) h
 have hb1:∀i (h:i<l.length),aJa bd l l[i]=true->aTc bd l=true:=λi h e=>List.any_eq_true.2 ⟨_,List.getElem_mem h,e⟩
 have hb2:(∀ i (h:i<l.length),aJa bd l l[i]=false)->aTc bd l=false:=λe=>List.any_eq_false.2 λx hx=>by
  obtain ⟨i,hi,rfl⟩:=List.getElem_of_mem hx
  rw [e i hi];simp
 generalize aTc bd l=T at hb1 hb2 ⊢
 generalize aCj bd l l.length=R at htl hgt
 refine aAa aSq HM Tryz.func30 rfl (by decide +kernel) (by decide +kernel) rfl ?_
 repeat' first|refine sY ⟨?_⟩|(refine sq ?_ ?_<;>refine λh=>⟨?_⟩<;>(first|contradiction|(exfalso;omega)|skip))|fail
 refine ⟨[1,2,5],[0],λm st=>∃i:Nat,i<=l.length/\m=l.length - i/\(∀ j (h:j<l.length),j<i->aJa bd l l[j]=false)/\
  st=⟨[(1,.ro 2 R),(2,.bptr 0 0),(5,.int .i64 (i:Nat))],[.box 31 [.ro 8 (aAv l),.int .i64 p]]⟩,rfl,⟨l.length,0,by omega,rfl,λj h h0=>absurd h0 (Nat.not_lt_zero _),rfl⟩,?_⟩
 rintro m _ ⟨i,hi,hm,hpr,rfl⟩
 rcases Nat.lt_or_ge i l.length with hil|hge
 · have hx:l[i]? =some l[i]:=List.getElem?_eq_getElem hil
   have g1:=aB1 hil
   obtain ⟨p1,q1,hp,hq,hpl,hql,hva,hcase⟩:=hkp hx
   have hnx:aJa bd l l[i]=false->∀j (h:j<l.length),j<i+1->aJa bd l l[j]=false:=λe j h hj=>(Nat.lt_succ_iff_lt_or_eq.1 hj).elim (hpr j h) (λe2=>by subst e2;exact e)
   have hk1:aJa bd l l[i]=true->T=true:=hb1 i hil
   have ga:R[p1]? =some [.ro 1 (aAh (aBv l (p1:Nat))),.ro 1 (aCm ((aAk bd l p1).map aAw))]:=hgt hpl
   have gb:R[q1]? =some [.ro 1 (aAh (aBv l (q1:Nat))),.ro 1 (aCm ((aAk bd l q1).map aAw))]:=hgt hql
   have hav:=hva.vl
   generalize hL:kL bd l l[i]=L at hcase
   have hk1:∀j (h:j<L.length),L[j]=0->T=true:=λj h e=>hk1 (by rw [aJa,hL];exact List.any_eq_true.2 ⟨_,List.getElem_mem h,by simp [e]⟩)
   have hnx:(∀ j (h:j<L.length),¬L[j]=0)->∀j (h:j<l.length),j<i+1->aJa bd l l[j]=false:=λe=>hnx (by
    rw [aJa,hL]
    refine List.any_eq_false.2 λr hr=>?_
    obtain ⟨j,hj,rfl⟩:=List.getElem_of_mem hr
    simpa using e j hj)
   clear hL hx hb1 hb2
   have hlen:(aCm ((aAk bd l p1).map aAw)).length=(aAk bd l p1).length:=by rw [rowS_length,List.length_map]
   generalize aAk bd l p1=a at ga hva hav hcase hlen
   generalize aAk bd l q1=b at gb hcase
   generalize l[i]=x at g1 hp hq hcase
   obtain ⟨op,A,B,name,s,kk,n,d⟩:=x
   dsimp only at hp hq hcase
   subst hp hq
   rcases hcase with ⟨rfl,hLa⟩|⟨rfl,hLa⟩|⟨rfl,rfl,hvb,_,hvd⟩|⟨n1,n2,n3,rfl⟩
   · have hLa:=hLa.symm
     subst hLa
     repeat' first|refine sY ⟨?_⟩|(refine sq ?_ ?_<;>refine λh=>⟨?_⟩<;>(first|contradiction|(exfalso;omega)|skip))|fail
     refine ⟨[1,2,5,6,7],[0,1],λm st=>∃k:Nat,k<=a.length/\m=a.length - k/\(∀ j (h:j<a.length),j<k->¬a[j]=0)/\
      st=⟨[(1,.ro 2 R),(2,.bptr 0 0),(5,.int .i64 (i:Nat)),(6,.bptr 1 0),(7,.int .i64 (k:Nat))],
       [.box 31 [.ro 8 (aAv l),.int .i64 p],.box 25 [.str aMk,.int .i64 (p1:Nat),.int .i64 (q1:Nat),.str name,.ro 1 (aAh s),.str kk,.int .i64 n,.ro 1 (aCm d)]]⟩,rfl,
      ⟨a.length,0,by omega,rfl,λj h h0=>absurd h0 (Nat.not_lt_zero _),rfl⟩,?_⟩
     rintro m _ ⟨k,hk,hm2,hall,rfl⟩
     rcases Nat.lt_or_ge k a.length with hka|hge2
     · have gk:(aCm (a.map aAw))[k]? =some [.str (aAw a[k])]:=by rw [aCd (by rw [List.length_map];exact hka),List.getElem_map]
       by_cases hz:a[k]=0
       · have hT:=hk1 k hka hz
         subst hT
         rw [hz,aCz] at gk
         repeat' first|refine sY ⟨?_⟩|(refine sq ?_ ?_<;>refine λh=>⟨?_⟩<;>(first|contradiction|(exfalso;omega)|skip))|fail
         refine ⟨by decide +kernel,[0,1,3,7,15,31,63,127,255,511,511,1535,4095,8191,16383,511,65535,131071,262143,524287,1048575,2097151,4194303,8388607,16777215,33554431,33554431,100663295,268435455,536870911,1073741823,33554431,4294967295,8589934591,33554431,33554431,34393292799,120292638719,257731592191,532609499135,33554431,2181876940799,4380900196351,8796093022207,17592186044415,35184372088831],by decide +kernel,?_⟩
         repeat' first|refine sY ⟨?_⟩|(refine sq ?_ ?_<;>refine λh=>⟨?_⟩<;>(first|contradiction|(exfalso;omega)|skip))|fail
         all_goals (conv=>whnf)
         all_goals rfl
       · have hz2:¬aAw a[k]=⟨#[48]⟩:=λe=>hz (aO2.1 e.symm)
         have hx:∀j (h:j<a.length),j<k+1->¬a[j]=0:=λj h hj=>(Nat.lt_succ_iff_lt_or_eq.1 hj).elim (hall j h) (λe=>by subst e;exact hz)
         generalize aAw a[k]=t at gk hz2
         repeat' first|refine sY ⟨?_⟩|(refine sq ?_ ?_<;>refine λh=>⟨?_⟩<;>(first|contradiction|(exfalso;omega)|skip))|fail
         refine ⟨by decide +kernel,[0,1,3,7,15,31,63,127,255,511,511,1535,4095,8191,16383,511,65535,131071,262143,524287,1048575,2097151,4194303,8388607,16777215,33554431,33554431,100663295,268435455,536870911,1073741823,33554431,4294967295,8589934591,33554431,33554431,34393292799,120292638719,257731592191,532609499135,33554431,2181876940799,4380900196351,8796093022207,17592186044415,35184372088831],by decide +kernel,?_⟩
         repeat' first|refine sY ⟨?_⟩|(refine sq ?_ ?_<;>refine λh=>⟨?_⟩<;>(first|contradiction|(exfalso;omega)|skip))|fail
         all_goals exact ⟨[0,1],a.length - (k+1),rfl,by omega,k+1,by omega,rfl,hx,rfl⟩
     · have hnx:=hnx (λj h=>hall j h (by omega))
       repeat' first|refine sY ⟨?_⟩|(refine sq ?_ ?_<;>refine λh=>⟨?_⟩<;>(first|contradiction|(exfalso;omega)|skip))|fail
       all_goals exact ⟨[0],l.length - (i+1),rfl,by omega,i+1,by omega,rfl,hnx,rfl⟩
   · have hLa:=hLa.symm
     subst hLa
     repeat' first|refine sY ⟨?_⟩|(refine sq ?_ ?_<;>refine λh=>⟨?_⟩<;>(first|contradiction|(exfalso;omega)|skip))|fail
     refine ⟨[1,2,5,6,7],[0,1],λm st=>∃k:Nat,k<=a.length/\m=a.length - k/\(∀ j (h:j<a.length),j<k->¬a[j]=0)/\
      st=⟨[(1,.ro 2 R),(2,.bptr 0 0),(5,.int .i64 (i:Nat)),(6,.bptr 1 0),(7,.int .i64 (k:Nat))],
       [.box 31 [.ro 8 (aAv l),.int .i64 p],.box 25 [.str bGj,.int .i64 (p1:Nat),.int .i64 (q1:Nat),.str name,.ro 1 (aAh s),.str kk,.int .i64 n,.ro 1 (aCm d)]]⟩,rfl,
      ⟨a.length,0,by omega,rfl,λj h h0=>absurd h0 (Nat.not_lt_zero _),rfl⟩,?_⟩
     rintro m _ ⟨k,hk,hm2,hall,rfl⟩
     rcases Nat.lt_or_ge k a.length with hka|hge2
     · have gk:(aCm (a.map aAw))[k]? =some [.str (aAw a[k])]:=by rw [aCd (by rw [List.length_map];exact hka),List.getElem_map]
       by_cases hz:a[k]=0
       · have hT:=hk1 k hka hz
         subst hT
         rw [hz,aCz] at gk
         repeat' first|refine sY ⟨?_⟩|(refine sq ?_ ?_<;>refine λh=>⟨?_⟩<;>(first|contradiction|(exfalso;omega)|skip))|fail
         refine ⟨by decide +kernel,[0,1,3,7,15,31,63,127,255,511,511,1535,4095,8191,16383,511,65535,131071,262143,524287,1048575,2097151,4194303,8388607,16777215,33554431,33554431,100663295,268435455,536870911,1073741823,33554431,4294967295,8589934591,33554431,33554431,34393292799,120292638719,257731592191,532609499135,33554431,2181876940799,4380900196351,8796093022207,17592186044415,35184372088831],by decide +kernel,?_⟩
         repeat' first|refine sY ⟨?_⟩|(refine sq ?_ ?_<;>refine λh=>⟨?_⟩<;>(first|contradiction|(exfalso;omega)|skip))|fail
         all_goals (conv=>whnf)
         all_goals rfl
       · have hz2:¬aAw a[k]=⟨#[48]⟩:=λe=>hz (aO2.1 e.symm)
         have hx:∀j (h:j<a.length),j<k+1->¬a[j]=0:=λj h hj=>(Nat.lt_succ_iff_lt_or_eq.1 hj).elim (hall j h) (λe=>by subst e;exact hz)
         generalize aAw a[k]=t at gk hz2
         repeat' first|refine sY ⟨?_⟩|(refine sq ?_ ?_<;>refine λh=>⟨?_⟩<;>(first|contradiction|(exfalso;omega)|skip))|fail
         refine ⟨by decide +kernel,[0,1,3,7,15,31,63,127,255,511,511,1535,4095,8191,16383,511,65535,131071,262143,524287,1048575,2097151,4194303,8388607,16777215,33554431,33554431,100663295,268435455,536870911,1073741823,33554431,4294967295,8589934591,33554431,33554431,34393292799,120292638719,257731592191,532609499135,33554431,2181876940799,4380900196351,8796093022207,17592186044415,35184372088831],by decide +kernel,?_⟩
         repeat' first|refine sY ⟨?_⟩|(refine sq ?_ ?_<;>refine λh=>⟨?_⟩<;>(first|contradiction|(exfalso;omega)|skip))|fail
         all_goals exact ⟨[0,1],a.length - (k+1),rfl,by omega,k+1,by omega,rfl,hx,rfl⟩
     · have hnx:=hnx (λj h=>hall j h (by omega))
       repeat' first|refine sY ⟨?_⟩|(refine sq ?_ ?_<;>refine λh=>⟨?_⟩<;>(first|contradiction|(exfalso;omega)|skip))|fail
       all_goals exact ⟨[0],l.length - (i+1),rfl,by omega,i+1,by omega,rfl,hnx,rfl⟩
   · obtain ⟨L,hLL⟩:∃L,L=List.zipWith (λx y=>x - y) a b:=⟨_,rfl⟩
     rw [<- hLL] at hk1 hnx hvd
     have hab:b.length=a.length:=by have:=hva.len;have:=hvb.len;omega
     have hLl:L.length=a.length:=by rw [hLL,List.length_zipWith];omega
     have hLg:∀k (h:k<a.length),L[k]'(by omega)=a[k] - b[k]'(by omega):=λk h=>by subst hLL;rw [List.getElem_zipWith]
     repeat' first|refine sY ⟨?_⟩|(refine sq ?_ ?_<;>refine λh=>⟨?_⟩<;>(first|contradiction|(exfalso;omega)|skip))|fail
     refine ⟨[1,2,5,6,7],[0,1],λm st=>∃k:Nat,k<=a.length/\m=a.length - k/\(∀ j (h:j<L.length),j<k->¬L[j]=0)/\
      st=⟨[(1,.ro 2 R),(2,.bptr 0 0),(5,.int .i64 (i:Nat)),(6,.bptr 1 0),(7,.int .i64 (k:Nat))],
       [.box 31 [.ro 8 (aAv l),.int .i64 p],.box 25 [.str aXv,.int .i64 (p1:Nat),.int .i64 (q1:Nat),.str name,.ro 1 (aAh s),.str kk,.int .i64 n,.ro 1 (aCm d)]]⟩,rfl,
      ⟨a.length,0,by omega,rfl,λj h h0=>absurd h0 (Nat.not_lt_zero _),rfl⟩,?_⟩
     rintro m _ ⟨k,hk,hm2,hall,rfl⟩
     rcases Nat.lt_or_ge k a.length with hka|hge2
     · have gk:(aCm (a.map aAw))[k]? =some [.str (aAw a[k])]:=by rw [aCd (by rw [List.length_map];exact hka),List.getElem_map]
       have gk2:(aCm (b.map aAw))[k]? =some [.str (aAw (b[k]'(by omega)))]:=by rw [aCd (by rw [List.length_map];omega),List.getElem_map]
       have hLk:=hLg k hka
       by_cases hz:a[k]=b[k]'(by omega)
       · have hT:=hk1 k (by omega) (by rw [hLk,hz,Rat.sub_self])
         subst hT
         rw [<- hz] at gk2
         repeat' first|refine sY ⟨?_⟩|(refine sq ?_ ?_<;>refine λh=>⟨?_⟩<;>(first|contradiction|(exfalso;omega)|skip))|fail
         refine ⟨by decide +kernel,[0,1,3,7,15,31,63,127,255,511,511,1535,4095,8191,16383,511,65535,131071,262143,524287,1048575,2097151,4194303,8388607,16777215,33554431,33554431,100663295,268435455,536870911,1073741823,33554431,4294967295,8589934591,33554431,33554431,34393292799,120292638719,257731592191,532609499135,33554431,2181876940799,4380900196351,8796093022207,17592186044415,35184372088831],by decide +kernel,?_⟩
         repeat' first|refine sY ⟨?_⟩|(refine sq ?_ ?_<;>refine λh=>⟨?_⟩<;>(first|contradiction|(exfalso;omega)|skip))|fail
         all_goals (conv=>whnf)
         all_goals rfl
       · have hz2:¬aAw a[k]=aAw (b[k]'(by omega)):=λe=>hz (aW7.1 e)
         have hx:∀j (h:j<L.length),j<k+1->¬L[j]=0:=λj h hj=>(Nat.lt_succ_iff_lt_or_eq.1 hj).elim (hall j h) (λe=>by
          subst e
          intro e2
          rw [hLk] at e2
          have e3:a[j] - b[j]'(by omega)+b[j]'(by omega)=a[j]:=Rat.sub_add_cancel
          rw [e2,Rat.zero_add] at e3
          exact hz e3.symm)
         generalize aAw a[k]=t at gk hz2
         generalize aAw (b[k]'(by omega))=u at gk2 hz2
         repeat' first|refine sY ⟨?_⟩|(refine sq ?_ ?_<;>refine λh=>⟨?_⟩<;>(first|contradiction|(exfalso;omega)|skip))|fail
         refine ⟨by decide +kernel,[0,1,3,7,15,31,63,127,255,511,511,1535,4095,8191,16383,511,65535,131071,262143,524287,1048575,2097151,4194303,8388607,16777215,33554431,33554431,100663295,268435455,536870911,1073741823,33554431,4294967295,8589934591,33554431,33554431,34393292799,120292638719,257731592191,532609499135,33554431,2181876940799,4380900196351,8796093022207,17592186044415,35184372088831],by decide +kernel,?_⟩
         repeat' first|refine sY ⟨?_⟩|(refine sq ?_ ?_<;>refine λh=>⟨?_⟩<;>(first|contradiction|(exfalso;omega)|skip))|fail
         all_goals exact ⟨[0,1],a.length - (k+1),rfl,by omega,k+1,by omega,rfl,hx,rfl⟩
     · have hnx:=hnx (λj h=>hall j h (by omega))
       repeat' first|refine sY ⟨?_⟩|(refine sq ?_ ?_<;>refine λh=>⟨?_⟩<;>(first|contradiction|(exfalso;omega)|skip))|fail
       all_goals exact ⟨[0],l.length - (i+1),rfl,by omega,i+1,by omega,rfl,hnx,rfl⟩
   · obtain ⟨L,hLL⟩:∃L:List Rat,L=[]:=⟨_,rfl⟩
     have hnx:=hnx (λj h=>absurd h (Nat.not_lt_zero _))
     repeat' first|refine sY ⟨?_⟩|(refine sq ?_ ?_<;>refine λh=>⟨?_⟩<;>(first|contradiction|(exfalso;omega)|skip))|fail
     refine ⟨[1,2,5,6,7],[0,1],λm st=>∃k:Nat,k<=a.length/\m=a.length - k/\(∀ j (h:j<L.length),j<k->¬L[j]=0)/\
      st=⟨[(1,.ro 2 R),(2,.bptr 0 0),(5,.int .i64 (i:Nat)),(6,.bptr 1 0),(7,.int .i64 (k:Nat))],
       [.box 31 [.ro 8 (aAv l),.int .i64 p],.box 25 [.str op,.int .i64 (p1:Nat),.int .i64 (q1:Nat),.str name,.ro 1 (aAh s),.str kk,.int .i64 n,.ro 1 (aCm d)]]⟩,rfl,
      ⟨a.length,0,by omega,rfl,λj h h0=>absurd h0 (Nat.not_lt_zero _),rfl⟩,?_⟩
     rintro m _ ⟨k,hk,hm2,hall,rfl⟩
     have hall2:∀j (h:j<L.length),j<k+1->¬L[j]=0:=λj h=>by subst hLL;exact absurd h (Nat.not_lt_zero _)
     rcases Nat.lt_or_ge k a.length with hka|hge2
     · repeat' first|refine sY ⟨?_⟩|(refine sq ?_ ?_<;>refine λh=>⟨?_⟩<;>(first|contradiction|(exfalso;omega)|skip))|fail
       refine ⟨by decide +kernel,[0,1,3,7,15,31,63,127,255,511,511,1535,4095,8191,16383,511,65535,131071,262143,524287,1048575,2097151,4194303,8388607,16777215,33554431,33554431,100663295,268435455,536870911,1073741823,33554431,4294967295,8589934591,33554431,33554431,34393292799,120292638719,257731592191,532609499135,33554431,2181876940799,4380900196351,8796093022207,17592186044415,35184372088831],by decide +kernel,?_⟩
       repeat' first|refine sY ⟨?_⟩|(refine sq ?_ ?_<;>refine λh=>⟨?_⟩<;>(first|contradiction|(exfalso;omega)|skip))|fail
       all_goals exact ⟨[0,1],a.length - (k+1),rfl,by omega,k+1,by omega,rfl,hall2,rfl⟩
     · repeat' first|refine sY ⟨?_⟩|(refine sq ?_ ?_<;>refine λh=>⟨?_⟩<;>(first|contradiction|(exfalso;omega)|skip))|fail
       all_goals exact ⟨[0],l.length - (i+1),rfl,by omega,i+1,by omega,rfl,hnx,rfl⟩
 · have hT:=hb2 (λj h=>hpr j h (by omega))
   subst hT
   repeat' first|refine sY ⟨?_⟩|(refine sq ?_ ?_<;>refine λh=>⟨?_⟩<;>(first|contradiction|(exfalso;omega)|skip))|fail
   all_goals (conv=>whnf)
   all_goals rfl
end Go.V
namespace Go.V
open Go.N Go.Proofs
set_option maxRecDepth 20000
def bKo:Tab:=[(31,i31),(41,i41),(52,i52),(4,i4),(42,i42),(53,i53),(3,i3),(34,i34),(54,i54),(27,i27),(9,i9),(23,i23)]
theorem aEw:TOK Tryz.prog bKo:=⟨K31,⟨K41,⟨K52,⟨K4,⟨K42,⟨K53,⟨K3,⟨K34,⟨K54,⟨K27,⟨K9,⟨K23,trivial⟩⟩⟩⟩⟩⟩⟩⟩⟩⟩⟩⟩
set_option maxHeartbeats 8000000 in
theorem bL0 (bs:List Bd) (g:Gr) (hs:∀x∈g.nodes,x.Sm) (hl:g.nodes.length<=1000) (hbl:bs.length<=1000) (hbs:∀b∈bs,b.Sm) (hG:aC1 g=true->aG8 (bdB bs) g.nodes)
 (hvt:aC1 g=true->∀j x,g.nodes[j]? =some x->VT x.shape (aAk (bdB bs) g.nodes j)):
 aAc Tryz.prog GL 27 [.agg g.cells,.ro 3 (aA5 bs)]
  (λy=>y=if aC1 g=true then (if aCt bs g.nodes=true then .tup [.bool (aTc (bdB bs) g.nodes),.int .i64 0] else .tup [.bool false,.int .i64 10]) else .tup [.bool false,.int .i64 1]):=by
 have ha:=aZd bs g hs hl hbl hbs hG
 cases hok:aC1 g
 · rw [hok,if_neg (by simp)] at ha
   rw [if_neg (by simp)]
   obtain ⟨l,p⟩:=g
   refine aAa aKy HM Tryz.func27 rfl (by decide +kernel) (by decide +kernel) rfl ?_
   repeat' first|refine sY ⟨?_⟩|(refine sq ?_ ?_<;>refine λh=>⟨?_⟩<;>(first|contradiction|(exfalso;omega)|skip))|fail
   all_goals (conv=>whnf)
   all_goals rfl
 rw [hok,if_pos rfl] at ha
 rw [if_pos rfl]
 cases hall:aCt bs g.nodes
 · rw [hall,if_neg (by simp)] at ha
   rw [if_neg (by simp)]
   obtain ⟨l,p⟩:=g
   refine aAa aKy HM Tryz.func27 rfl (by decide +kernel) (by decide +kernel) rfl ?_
   repeat' first|refine sY ⟨?_⟩|(refine sq ?_ ?_<;>refine λh=>⟨?_⟩<;>(first|contradiction|(exfalso;omega)|skip))|fail
   all_goals (conv=>whnf)
   all_goals rfl
 rw [hall,if_pos rfl] at ha
 rw [if_pos rfl]
 have hkp:=λ{i:Nat} {x:Nd}=>@aT7 (bdB bs) g hok (hG hok) (hvt hok) i x
 generalize bdB bs=bd at*
 obtain ⟨l,p⟩:=g
 dsimp only at*
 replace ha:aAc Tryz.prog GL 25 [.agg [.ro 8 (aAv l),.int .i64 p],.ro 3 (aA5 bs)] (λy=>y= .tup [.ro 2 (aCj bd l l.length),.int .i64 0]):=ha
 show aAc _ _ _ [.agg [.ro 8 (aAv l),.int .i64 p],_] _
 have hlr:=rowN_length l
 have htl:=aC0 bd l l.length
 have hgt:=λ{j:Nat} (h:j<l.length)=>aD1 (bd:=bd) (l:=l) h
 have hb1:∀i (h:i<l.length),aJa bd l l[i]=true->aTc bd l=true:=λi h e=>List.any_eq_true.2 ⟨_,List.getElem_mem h,e⟩
 have hb2:(∀ i (h:i<l.length),aJa bd l l[i]=false)->aTc bd l=false:=λe=>List.any_eq_false.2 λx hx=>by
  obtain ⟨i,hi,rfl⟩:=List.getElem_of_mem hx
  rw [e i hi];simp
 generalize aTc bd l=T at hb1 hb2 ⊢
 generalize aCj bd l l.length=R at ha htl hgt
 refine aAa aKy HM Tryz.func27 rfl (by decide +kernel) (by decide +kernel) rfl ?_
 repeat' first|refine sY ⟨?_⟩|(refine sq ?_ ?_<;>refine λh=>⟨?_⟩<;>(first|contradiction|(exfalso;omega)|skip))|fail
 refine ⟨[6,23,24,25],[],λm st=>∃i:Nat,i<=l.length/\m=l.length - i/\(∀ j (h:j<l.length),j<i->aJa bd l l[j]=false)/\
  st=⟨[(6,.ro 2 R),(23,.ro 8 (aAv l)),(24,.int .i64 ((aAv l).length:Nat)),(25,.int .i64 (i:Nat))],[]⟩,rfl,⟨l.length,0,by omega,rfl,λj h h0=>absurd h0 (Nat.not_lt_zero _),rfl⟩,?_⟩
 rintro m _ ⟨i,hi,hm,hpr,rfl⟩
 rcases Nat.lt_or_ge i l.length with hil|hge
 · have hx:l[i]? =some l[i]:=List.getElem?_eq_getElem hil
   have g1:=aB1 hil
   obtain ⟨p1,q1,hp,hq,hpl,hql,hva,hcase⟩:=hkp hx
   have hnx:aJa bd l l[i]=false->∀j (h:j<l.length),j<i+1->aJa bd l l[j]=false:=λe j h hj=>(Nat.lt_succ_iff_lt_or_eq.1 hj).elim (hpr j h) (λe2=>by subst e2;exact e)
   have hk1:aJa bd l l[i]=true->T=true:=hb1 i hil
   have ga:R[p1]? =some [.ro 1 (aAh (aBv l (p1:Nat))),.ro 1 (aAj (aAk bd l p1))]:=hgt hpl
   have gb:R[q1]? =some [.ro 1 (aAh (aBv l (q1:Nat))),.ro 1 (aAj (aAk bd l q1))]:=hgt hql
   rw [aJa] at hk1 hnx
   generalize kL bd l l[i]=L at hcase hk1 hnx
   clear hx hb1 hb2
   generalize aBv l (p1:Nat)=sa at ga hva hcase
   generalize aBv l (q1:Nat)=sb at gb hcase
   generalize aAk bd l p1=a at ga hva hcase
   generalize aAk bd l q1=b at gb hcase
   generalize l[i]=x at g1 hp hq hcase
   obtain ⟨op,A,B,name,s,kk,n,d⟩:=x
   dsimp only at hp hq hcase
   subst hp hq
   rcases hcase with ⟨rfl,hLa⟩|⟨rfl,hLa⟩|⟨rfl,hLa,hvb,hsb,hvd⟩|⟨n1,n2,n3,hLa⟩
   · have hfl:=bDf hva
     rw [<- hLa] at hfl hva ga
     unfold aAs at hfl
     cases hany:(L.any λr=>decide (r=0))
     · have hnx:=hnx hany
       rw [hany] at hfl
       repeat' first|refine sY ⟨?_⟩|(refine sq ?_ ?_<;>refine λh=>⟨?_⟩<;>(first|contradiction|(exfalso;omega)|skip))|fail
       skip
       all_goals exact ⟨[],l.length - (i+1),rfl,by omega,i+1,by omega,rfl,hnx,rfl⟩
     · have hT:=hk1 hany
       rw [hany] at hfl
       subst hT
       repeat' first|refine sY ⟨?_⟩|(refine sq ?_ ?_<;>refine λh=>⟨?_⟩<;>(first|contradiction|(exfalso;omega)|skip))|fail
       skip
       all_goals (conv=>whnf)
       all_goals rfl
   · have hfl:=bDf hva
     rw [<- hLa] at hfl hva ga
     unfold aAs at hfl
     cases hany:(L.any λr=>decide (r=0))
     · have hnx:=hnx hany
       rw [hany] at hfl
       repeat' first|refine sY ⟨?_⟩|(refine sq ?_ ?_<;>refine λh=>⟨?_⟩<;>(first|contradiction|(exfalso;omega)|skip))|fail
       skip
       all_goals exact ⟨[],l.length - (i+1),rfl,by omega,i+1,by omega,rfl,hnx,rfl⟩
     · have hT:=hk1 hany
       rw [hany] at hfl
       subst hT
       repeat' first|refine sY ⟨?_⟩|(refine sq ?_ ?_<;>refine λh=>⟨?_⟩<;>(first|contradiction|(exfalso;omega)|skip))|fail
       skip
       all_goals (conv=>whnf)
       all_goals rfl
   · have hfl:=bDf hvd
     have hz:=aZk hva hvb
     rw [<- hLa] at hfl hz
     subst hsb
     unfold aAs at hfl hz
     cases hany:(L.any λr=>decide (r=0))
     · have hnx:=hnx hany
       rw [hany] at hfl
       repeat' first|refine sY ⟨?_⟩|(refine sq ?_ ?_<;>refine λh=>⟨?_⟩<;>(first|contradiction|(exfalso;omega)|skip))|fail
       refine ⟨by decide +kernel,[0,0,0,4,14,30,63,127,255,255,511],by decide +kernel,?_⟩
       repeat' first|refine sY ⟨?_⟩|(refine sq ?_ ?_<;>refine λh=>⟨?_⟩<;>(first|contradiction|(exfalso;omega)|skip))|fail
       all_goals exact ⟨[],l.length - (i+1),rfl,by omega,i+1,by omega,rfl,hnx,rfl⟩
     · have hT:=hk1 hany
       rw [hany] at hfl
       subst hT
       repeat' first|refine sY ⟨?_⟩|(refine sq ?_ ?_<;>refine λh=>⟨?_⟩<;>(first|contradiction|(exfalso;omega)|skip))|fail
       refine ⟨by decide +kernel,[0,0,0,4,14,30,63,127,255,255,511],by decide +kernel,?_⟩
       repeat' first|refine sY ⟨?_⟩|(refine sq ?_ ?_<;>refine λh=>⟨?_⟩<;>(first|contradiction|(exfalso;omega)|skip))|fail
       all_goals (conv=>whnf)
       all_goals rfl
   · have hnx:=hnx (by rw [hLa];rfl)
     repeat' first|refine sY ⟨?_⟩|(refine sq ?_ ?_<;>refine λh=>⟨?_⟩<;>(first|contradiction|(exfalso;omega)|skip))|fail
     all_goals exact ⟨[],l.length - (i+1),rfl,by omega,i+1,by omega,rfl,hnx,rfl⟩
 · have hT:=hb2 (λj h=>hpr j h (by omega))
   subst hT
   repeat' first|refine sY ⟨?_⟩|(refine sq ?_ ?_<;>refine λh=>⟨?_⟩<;>(first|contradiction|(exfalso;omega)|skip))|fail
   all_goals (conv=>whnf)
   all_goals rfl
set_option maxHeartbeats 8000000 in
open Classical in
theorem bLs (g:Gr) (bs:List Bd) (hbb:bs.length*64<=140737488351232):aAc Tryz.prog GL 6 [.agg g.cells,.ro 3 (aA5 bs)] (λr=>r= .bool true):=by
 have haw:=aZb
 obtain ⟨l,p⟩:=g
 show aAc _ _ _ [.agg [.ro 8 (aAv l),.int .i64 p],.ro 3 (aA5 bs)] _
 have hsm:=aK5 GL ⟨l,p⟩
 have hrf:=bTy bs hbb
 have hsb:=aK6 bs
 have hlr:=rowN_length l
 have hbr:=aBk bs
 cases hS:aFh ⟨l,p⟩
 · rw [hS] at hsm
   refine aAa aEw HM Tryz.func6 rfl (by decide +kernel) (by decide +kernel) rfl ?_
   repeat' first|refine sY ⟨?_⟩|(refine sq ?_ ?_<;>refine λh=>⟨?_⟩<;>(first|contradiction|(exfalso;omega)|skip))|fail
   all_goals (conv=>whnf)
   all_goals rfl
 rw [hS] at hsm
 simp only [aFh,Bool.and_eq_true,decide_eq_true_eq,List.all_eq_true] at hS
 obtain ⟨hl,hs⟩:=hS
 have hs:=λx hx=>aMn (hs x hx)
 cases hB:aGk bs
 · rw [hB] at hsb
   refine aAa aEw HM Tryz.func6 rfl (by decide +kernel) (by decide +kernel) rfl ?_
   repeat' first|refine sY ⟨?_⟩|(refine sq ?_ ?_<;>refine λh=>⟨?_⟩<;>(first|contradiction|(exfalso;omega)|skip))|fail
   all_goals (conv=>whnf)
   all_goals rfl
 rw [hB] at hsb
 obtain ⟨hbl,hbs⟩:=aKl hB
 have hcm:=bEv l p bs (by omega) hs (by omega) hbs
 by_cases hC:aP4 l bs<=400
 case neg=>
  rw [decide_eq_false hC] at hcm
  refine aAa aEw HM Tryz.func6 rfl (by decide +kernel) (by decide +kernel) rfl ?_
  repeat' first|refine sY ⟨?_⟩|(refine sq ?_ ?_<;>refine λh=>⟨?_⟩<;>(first|contradiction|(exfalso;omega)|skip))|fail
  all_goals (conv=>whnf)
  all_goals rfl
 rw [decide_eq_true hC] at hcm
 have hGi:=λh=>aFz (g:=⟨l,p⟩) h hs bs hbs hC
 dsimp only at hGi
 have hf:=aZd bs ⟨l,p⟩ hs (by dsimp only;omega) (by omega) hbs (λh=>aFm (hGi h))
 have hlo:=aM4 bs ⟨l,p⟩ hs (by dsimp only;omega) (by omega) hbs (λh=>aFm (hGi h)) (λh=>aFa (hGi h))
 have hki:=bL0 bs ⟨l,p⟩ hs (by dsimp only;omega) (by omega) hbs (λh=>aFm (hGi h)) (λh j x hx=>(aL2 (hGi h) hx).1)
 have hR:=bDn GL ⟨l,p⟩ hs (by dsimp only;omega)
 cases hg:aC1 ⟨l,p⟩
 · rw [hg,if_neg (by simp)] at hf hlo hki
   rw [hg] at hR
   refine aAa aEw HM Tryz.func6 rfl (by decide +kernel) (by decide +kernel) rfl ?_
   repeat' first|refine sY ⟨?_⟩|(refine sq ?_ ?_<;>refine λh=>⟨?_⟩<;>(first|contradiction|(exfalso;omega)|skip))|fail
   all_goals (conv=>whnf)
   all_goals rfl
 have G:=hGi hg
 have hra:=bMg bs ⟨l,p⟩ hg hs (by dsimp only;omega) (by omega) hbs (aFm G)
 rw [hg,if_pos rfl] at hf hlo hki
 rw [hg] at hR
 dsimp only at hf hlo hki hra
 cases hA:aCt bs l
 · rw [hA,if_neg (by simp)] at hf hlo hki hra
   refine aAa aEw HM Tryz.func6 rfl (by decide +kernel) (by decide +kernel) rfl ?_
   repeat' first|refine sY ⟨?_⟩|(refine sq ?_ ?_<;>refine λh=>⟨?_⟩<;>(first|contradiction|(exfalso;omega)|skip))|fail
   all_goals (conv=>whnf)
   all_goals rfl
 rw [hA,if_pos rfl] at hf hlo hki hra
 have hrk:=aZj (bd:=bdB bs) ⟨l,p⟩ hg (by dsimp only;omega) (aFm G) (λj x hx=>(aL2 G hx).1)
 obtain ⟨h1,h2,q,hq1,hql⟩:=aMd hg
 have hlv:=(aWx hg (aFa G) hq1 hql)
 have hsv:=λ{i:Nat} {x:Nd}=>@aL2 (bdB bs) l _ G i x
 have htl:=aC0 (bdB bs) l l.length
 have hgt:=λ{j:Nat} (h:j<l.length)=>aD1 (bd:=bdB bs) (l:=l) h
 dsimp only at hq1 hql hlv hrk
 replace hrk:aAc Tryz.prog GL 30 [.agg [.ro 8 (aAv l),.int .i64 p],.ro 2 (aCj (bdB bs) l l.length)] (λy=>y= .bool (aTc (bdB bs) l)):=hrk
 have gq:(aCj (bdB bs) l l.length)[q]? =some [.ro 1 (aAh (aBv l (q:Nat))),.ro 1 [[.str (aAw (aGc bs ⟨l,p⟩))]]]:=by rw [aD1 hql,tcE,hlv];rfl
 have hgt:∀j,j<l.length->∃s v,VT s v/\(aCj (bdB bs) l l.length)[j]? =some [.ro 1 (aAh s),.ro 1 (aAj v)]:=λj h=>by
  exact ⟨_,_,(hsv (List.getElem?_eq_getElem h)).1,by rw [aD1 h,tcE,aAp h]⟩
 generalize aTc (bdB bs) l=K at hki hrk
 generalize aAw (aGc bs ⟨l,p⟩)=sL at hlo gq
 generalize aBv l (q:Nat)=sqh at gq
 generalize aCj (bdB bs) l l.length=R at hf hra htl gq hgt hrk
 clear hsv hlv hGi G
 subst hq1
 refine aAa aEw HM Tryz.func6 rfl (by decide +kernel) (by decide +kernel) rfl ?_
 repeat' first|refine sY ⟨?_⟩|(refine sq ?_ ?_<;>refine λh=>⟨?_⟩<;>(first|contradiction|(exfalso;omega)|skip))|fail
 refine ⟨[2,6,8,10,12,115,116],[0],λm st=>∃i:Nat,i<=l.length/\m=l.length - i/\
  st=⟨[(2,.bptr 0 0),(6,.ro 2 R),(8,.str sL),(10,.bool K),(12,.ro 2 R),(115,.int .i64 (R.length:Nat)),(116,.int .i64 (i:Nat))],[.box 31 [.ro 8 (aAv l),.int .i64 (q:Nat)]]⟩,rfl,⟨l.length,0,by omega,rfl,rfl⟩,?_⟩
 rintro m _ ⟨i,hi,hm,rfl⟩
 rcases Nat.lt_or_ge i l.length with hil|hge
 · obtain ⟨sh,v,hv,gi⟩:=hgt i hil
   have hE:=aK3 sh sh (v.map aAw) (v.map aAw) (by have:=hv.sl;omega) (by have:=hv.sl;omega) (by rw [List.length_map];have:=hv.vl;omega)
   rw [decide_eq_true rfl,decide_eq_true rfl,Bool.and_true] at hE
   unfold aEv at hE
   unfold aAj at gi
   repeat' first|refine sY ⟨?_⟩|(refine sq ?_ ?_<;>refine λh=>⟨?_⟩<;>(first|contradiction|(exfalso;omega)|skip))|fail
   refine ⟨by decide +kernel,[0,0,3,7,0,0,48,112,255,511],by decide +kernel,?_⟩
   repeat' first|refine sY ⟨?_⟩|(refine sq ?_ ?_<;>refine λh=>⟨?_⟩<;>(first|contradiction|(exfalso;omega)|skip))|fail
   all_goals exact ⟨[0],l.length - (i+1),rfl,by omega,i+1,by omega,rfl,rfl⟩
 · cases K
   · repeat' first|refine sY ⟨?_⟩|(refine sq ?_ ?_<;>refine λh=>⟨?_⟩<;>(first|contradiction|(exfalso;omega)|skip))|fail
     all_goals (conv=>whnf)
     all_goals rfl
   · repeat' first|refine sY ⟨?_⟩|(refine sq ?_ ?_<;>refine λh=>⟨?_⟩<;>(first|contradiction|(exfalso;omega)|skip))|fail
     all_goals (conv=>whnf)
     all_goals rfl
end Go.V
