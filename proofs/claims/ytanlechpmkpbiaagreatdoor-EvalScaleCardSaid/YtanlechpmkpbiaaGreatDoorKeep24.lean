/-
  Lemmas (part 24) for: Fold and Eval: FoldKeeps, EvalAll, EvalScale hold for all arguments; no condition.
-/
import Derived.Test.YtanlechpmkpbiaaGreatDoorKeep23
set_option linter.all false
namespace Go.V
open Go.N Go.Proofs
set_option maxRecDepth 20000
def aKo (g:Gr) (x:Nd):Gr:=⟨g.nodes++[x],((g.nodes.length:Nat):Int)⟩
theorem bSk {l:List Nd}{x:Nd}{k:Nat}(h:k<l.length):bD1 (l++[x]) k=bD1 l k:=by
 rw [bD1,bD1,List.getElem?_append_left h,List.take_append_of_le_length (by omega)]
theorem aYw {l:List Nd}{x:Nd}:∀k,k<=l.length->aHd (l++[x]) k=aHd l k
 |0,_=>rfl
 |k+1,h=>by rw [aHl,aHl,aYw k (by omega),bSk (by omega)]
theorem bWw {p:Int}{l:List Nd}(h:inR p l=true):1<=l.length:=by
 obtain ⟨k,_,hk⟩:=aBc h
 omega
theorem bFv {g:Gr}{x:Nd}(hl:g.nodes.length<=100) (hn:x.name=⟨#[]⟩) (hs:x.shape=[]) (hi:aCu g.nodes x=some []↔(inR g.loss g.nodes=true/\aBv g.nodes g.loss=[])):aC1 (aKo g x)=aC1 g:=by
 have e1:aHd (g.nodes++[x]) (g.nodes++[x]).length=(aHd g.nodes g.nodes.length && bAf g.nodes x):=by
  rw [List.length_append,List.length_singleton,aHl,aYw _ (Nat.le_refl _),bD1,List.getElem?_append_right (Nat.le_refl _),Nat.sub_self]
  show (_ && bAf (List.take g.nodes.length (g.nodes++[x])) x)=_
  rw [List.take_append_of_le_length (Nat.le_refl _),List.take_length]
 have e2:bAf g.nodes x=decide (aCu g.nodes x=some []):=by
  rw [bAf,hs,show g.nodes.all (aC9 x)=true from List.all_eq_true.2 λy _=>by simp [aC9,hn],Bool.and_true]
 have e3:bBc (aKo g x)=true:=by
  have hlt:g.nodes.length<(g.nodes++[x]).length:=by simp
  simp only [bBc,Bool.and_eq_true]
  refine ⟨⟨⟨decide_eq_true ?_,decide_eq_true ?_⟩,?_⟩,decide_eq_true ?_⟩
  · show 1<=(g.nodes++[x]).length
    omega
  · show (g.nodes++[x]).length<=200
    rw [List.length_append,List.length_singleton];omega
  · show inR ((g.nodes.length:Nat):Int) (g.nodes++[x])=true
    simp [inR];omega
  show aBv (g.nodes++[x]) ((g.nodes.length:Nat):Int)=[]
  rw [aAp hlt];simp [hs]
 rw [Bool.eq_iff_iff,aC1,e3,Bool.true_and]
 show aHd (g.nodes++[x]) (g.nodes++[x]).length=true↔_
 rw [e1,e2,Bool.and_eq_true,decide_eq_true_eq,hi]
 simp only [aC1,bBc,Bool.and_eq_true,decide_eq_true_eq]
 constructor
 · rintro ⟨h1,h2,h3⟩
   exact ⟨⟨⟨⟨bWw h2,by omega⟩,h2⟩,h3⟩,h1⟩
 · rintro ⟨⟨⟨⟨_,_⟩,h2⟩,h3⟩,h1⟩
   exact ⟨h1,h2,h3⟩
def ndS (p:Int) (k:ByteArray):Nd:=⟨aB4,p,0,⟨#[]⟩,[],k,0,[]⟩
def bFy (p:Int):Nd:=⟨bBe,p,p,⟨#[]⟩,[],⟨#[]⟩,0,[]⟩
theorem bN5 {s:List Int}{b:Bool}(hb:s=[]->b=true):okZ (s,b)=some []↔s=[]:=by
 unfold okZ
 dsimp only
 constructor
 · intro h
   split at h
   · exact Option.some.inj h
   · cases h
 · intro h
   rw [hb h,h];rfl
theorem bM4 {l:List Nd}{x:Nd}{m:Nat}(hm:0<m) (h:inR x.a l=false):aN8 l x m=false:=by
 cases hf:aN8 l x m
 · rfl
 · have:=((aI7 _ _ _).1 hf).ia hm
   rw [h] at this;cases this
theorem bNf {l:List Nd}{p:Int}{k:ByteArray}(hk:aBa k=true):aCu l (ndS p k)=some []↔(inR p l=true/\aBv l p=[]):=by
 cases hr:inR p l
 · rw [aEd (show aBh (ndS p k).op=some 1 from rfl) (bM4 (by decide) hr)];simp
 · have hf:aN8 l (ndS p k) 1=true:=(aI7 _ _ _).2 ⟨λh=>absurd h (by decide),λ_=>rfl,λh=>absurd h (show ¬aA7 aB4=true by decide),λ_=>rfl,λh=>absurd rfl h,λ_=>rfl,λ_=>rfl,λ_=>hr,λh=>absurd h (by decide)⟩
   rw [aEo (show aBh (ndS p k).op=some 1 from rfl) hf]
   have e:ofZ (ndS p k) (if 1=0 then [] else aBv l (ndS p k).a) (if 1<2 then [] else aBv l (ndS p k).b)=(aBv l p,aBa k):=rfl
   rw [e,hk,bN5 (λ_=>rfl)]
   simp
theorem bNe {l:List Nd}{p:Int}:aCu l (bFy p)=some []↔(inR p l=true/\aBv l p=[]):=by
 cases hr:inR p l
 · rw [aEd (show aBh (bFy p).op=some 2 from rfl) (bM4 (by decide) hr)];simp
 · have hf:aN8 l (bFy p) 2=true:=(aI7 _ _ _).2 ⟨λh=>absurd h (by decide),λh=>absurd h (by decide),λh=>absurd h (show ¬aA7 bBe=true by decide),λ_=>rfl,λ_=>rfl,λ_=>rfl,λ_=>rfl,λ_=>hr,λ_=>hr⟩
   rw [aEo (show aBh (bFy p).op=some 2 from rfl) hf]
   have e:ofZ (bFy p) (if 2=0 then [] else aBv l (bFy p).a) (if 2<2 then [] else aBv l (bFy p).b)=(aBv l p,decide (aBv l p=aBv l p)):=rfl
   rw [e,bN5 (λ_=>decide_eq_true rfl)]
   simp
theorem aKk {l:List Nd}(x:Nd){r:Nat}(hr:r<l.length):aBv (l++[x]) (r:Nat)=aBv l (r:Nat):=by
 rw [aAp (by rw [List.length_append];omega),aAp hr,List.getElem_append_left hr]
theorem bDt (l:List Nd) (x:Nd):(l++[x])[l.length]? =some x:=by rw [List.getElem?_append_right (Nat.le_refl _),Nat.sub_self];rfl
section
variable {bd:Nd->List Rat}{g:Gr}{x:Nd}{p q:Nat}
theorem bXx (hg:aC1 g=true){o:Opc}(ho:x.op=o.str) (hn:aA7 x.op=false) (hp:x.a=(p:Nat)) (hp2:p<g.nodes.length) (hq:x.b=(q:Nat)) (hq2:q<g.nodes.length):
 aAk bd (g.nodes++[x]) g.nodes.length=bPd o x.shape x.k x.n x.data (aBv g.nodes (p:Nat)) (aAk bd g.nodes p) (aBv g.nodes (q:Nat)) (aAk bd g.nodes q):=by
 have hl:g.nodes.length<=(g.nodes++[x]).length:=by simp
 rw [aFy (bDt _ x),bAx,hn,if_neg (by simp),ho,aFg,hp,hq,aHh hp2 hl,aHh hq2 hl,aFj hg x hp2,aFj hg x hq2,aKk x hp2,aKk x hq2]
theorem bSe (hg:aC1 g=true) (G:aG8 bd g.nodes) (hp:x.a=(p:Nat)) (hp2:p<g.nodes.length) (hq:x.b=(q:Nat)) (hq2:q<g.nodes.length)
 (hx:∀o:Opc,x.op=o.str->FitV o x.shape x.k x.n x.data (aBv g.nodes (p:Nat)) (aAk bd g.nodes p) (aBv g.nodes (q:Nat)) (aAk bd g.nodes q) (aAk bd (g.nodes++[x]) g.nodes.length)):aG8 bd (g.nodes++[x]):=λj y o hy ho hn sa a sb b ha hb=>by
 rcases Nat.lt_or_ge j g.nodes.length with hj|hj
 · rw [List.getElem?_append_left hj] at hy
   obtain ⟨o',ho',F⟩:=aIo hg hy
   obtain rfl:=aRt (ho.symm.trans ho')
   rw [aFj hg x hj]
   refine G j y o hy ho hn sa a sb b (λh=>?_) (λh=>?_)
   · obtain ⟨r,hr,h1,h2⟩:=aDq (F.ia h)
     have e:=ha h
     rw [hr,Int.toNat_natCast,aKk x h2,aFj hg x h2] at e
     rw [hr,Int.toNat_natCast];exact e
   · obtain ⟨r,hr,h1,h2⟩:=aDq (F.ib h)
     have e:=hb h
     rw [hr,Int.toNat_natCast,aKk x h2,aFj hg x h2] at e
     rw [hr,Int.toNat_natCast];exact e
 · have hj2:=(List.getElem?_eq_some_iff.1 hy).1
   obtain rfl:j=g.nodes.length:=by rw [List.length_append,List.length_singleton] at hj2;omega
   rw [bDt] at hy
   obtain rfl:=Option.some.inj hy
   refine (hx o ho).any (λh=>?_) (λh=>?_)
   · have e:=ha h
     rw [hp,Int.toNat_natCast,aKk x hp2,aFj hg x hp2] at e;exact e
   · have e:=hb h
     rw [hq,Int.toNat_natCast,aKk x hq2,aFj hg x hq2] at e;exact e
theorem bW7 (hg:aC1 g=true) (hlen:∀j y,g.nodes[j]? =some y->(((aAk bd g.nodes j).length:Nat):Int)=aA8 y.shape) (hs:x.shape=[]){r:Rat}(hv:aAk bd (g.nodes++[x]) g.nodes.length=[r]):
 ∀j y,(g.nodes++[x])[j]? =some y->(((aAk bd (g.nodes++[x]) j).length:Nat):Int)=aA8 y.shape:=λj y hy=>by
 rcases Nat.lt_or_ge j g.nodes.length with hj|hj
 · rw [List.getElem?_append_left hj] at hy
   rw [aFj hg x hj]
   exact hlen j y hy
 · have hj2:=(List.getElem?_eq_some_iff.1 hy).1
   obtain rfl:j=g.nodes.length:=by rw [List.length_append,List.length_singleton] at hj2;omega
   rw [bDt] at hy
   obtain rfl:=Option.some.inj hy
   rw [hv,hs];rfl
end
structure More (bs:List Bd) (g:Gr) (x:Nd) (r:Rat):Prop where
 good:aG8 (bdB bs) (aKo g x).nodes
 len:∀j y,(aKo g x).nodes[j]? =some y->(((aAk (bdB bs) (aKo g x).nodes j).length:Nat):Int)=aA8 y.shape
 loss:aGc bs (aKo g x)=r
theorem bNv {bs:List Bd}{g:Gr}{x:Nd}{r:Rat}{p q:Nat}{o:Opc}(hg:aC1 g=true) (G:aG8 (bdB bs) g.nodes) (hlen:∀j y,g.nodes[j]? =some y->(((aAk (bdB bs) g.nodes j).length:Nat):Int)=aA8 y.shape)
 (ho:x.op=o.str) (hn:aA7 x.op=false) (hp:x.a=(p:Nat)) (hp2:p<g.nodes.length) (hq:x.b=(q:Nat)) (hq2:q<g.nodes.length) (hs:x.shape=[])
 (hF:FitV o x.shape x.k x.n x.data (aBv g.nodes (p:Nat)) (aAk (bdB bs) g.nodes p) (aBv g.nodes (q:Nat)) (aAk (bdB bs) g.nodes q) [r])
 (hv:bPd o x.shape x.k x.n x.data (aBv g.nodes (p:Nat)) (aAk (bdB bs) g.nodes p) (aBv g.nodes (q:Nat)) (aAk (bdB bs) g.nodes q)=[r]):More bs g x r:=by
 have e:=bXx (bd:=bdB bs) hg ho hn hp hp2 hq hq2
 rw [hv] at e
 refine ⟨bSe hg G hp hp2 hq hq2 (λo' ho'=>?_),bW7 hg hlen hs e,?_⟩
 · obtain rfl:=aRt (ho.symm.trans ho')
   rw [e];exact hF
 · show atR (aAk (bdB bs) (g.nodes++[x]) (((g.nodes.length:Nat):Int)).toNat) 0=r
   rw [Int.toNat_natCast,e];rfl
theorem bNn {bs:List Bd}{g:Gr}{c:Nat}(hg:aC1 g=true) (G:Given (bdB bs) g.nodes c){p:Nat}(hp:g.loss=(p:Nat)) (hpl:p<g.nodes.length):
 aAk (bdB bs) g.nodes p=[aGc bs g]/\aBv g.nodes (p:Nat)=[]/\MM (aGc bs g)<=10 ^ 400:=by
 have h:=aWx hg (aFa G) hp hpl
 have hs:aBv g.nodes g.loss=[]:=by
  simp only [aC1,bBc,Bool.and_eq_true,decide_eq_true_eq] at hg
  exact hg.1.2
 rw [hp] at hs
 exact ⟨h,hs,(aL2 G (List.getElem?_eq_getElem hpl)).2 _ (by rw [h];exact List.mem_singleton_self _)⟩
theorem bO7 {x:Rat}(h:RS x):VT [] [x]:=⟨rfl,rfl,λy hy=>by rw [List.mem_singleton.1 hy];exact h⟩
theorem bI3 {bs:List Bd}{g:Gr}{c:Nat}(hg:aC1 g=true) (G:Given (bdB bs) g.nodes c){k:ByteArray}(hk:aBa k=true) (hks:k.size<=20):
 More bs g (ndS g.loss k) (aGc bs g*aN1 k)/\RS (aGc bs g)/\RS (aN1 k):=by
 obtain ⟨h1,h2,p,hp,hpl⟩:=aMd hg
 obtain ⟨hv,hs,hm⟩:=bNn hg G hp hpl
 have hkm:MM (aN1 k)<=10 ^ 21:=bPk (n:=20) (by rw [aHv hk];exact hks)
 have r1:RS (aGc bs g):=aG9 hm (by decide)
 have r2:RS (aN1 k):=aG9 hkm (by decide)
 have r3:RS (aGc bs g*aN1 k):=aG9 (Nat.le_trans (aXy _ _) (aJs hm hkm)) (by decide)
 refine ⟨bNv (o:=.scale) (p:=p) (q:=0) hg (aFm G) (aFa G) rfl rfl hp hpl rfl h1 rfl ?_ ?_,r1,r2⟩
 · rw [hv,hs]
   have h:=FitV.scale (s:=[]) (n:=0) (d:=[]) (sb:=aBv g.nodes ((0:Nat):Int)) (b:=aAk (bdB bs) g.nodes 0) (bO7 r1) r2 (λx hx=>by rw [List.mem_singleton.1 hx];exact r3)
    (bOv (E:=400) 400 (λy hy=>by rw [List.mem_singleton.1 hy];exact hm) (show 1*400<=400 by decide) (by decide) (by decide))
   rw [aHv hk] at h
   exact h
 · rw [hv];rfl
theorem bQ7 {bs:List Bd}{g:Gr}{c:Nat}(hg:aC1 g=true) (G:Given (bdB bs) g.nodes c):More bs g (bFy g.loss) (aGc bs g+aGc bs g):=by
 obtain ⟨h1,h2,p,hp,hpl⟩:=aMd hg
 obtain ⟨hv,hs,hm⟩:=bNn hg G hp hpl
 have r1:RS (aGc bs g):=aG9 hm (by decide)
 have r3:RS (aGc bs g+aGc bs g):=aG9 (Nat.le_trans (bJr _ _) (aJs hm hm)) (by decide)
 refine bNv (o:=.add) (p:=p) (q:=p) hg (aFm G) (aFa G) rfl rfl hp hpl hp hpl rfl ?_ ?_
 · rw [hv,hs]
   exact FitV.add (k:=⟨#[]⟩) (n:=0) (d:=[]) (bO7 r1) (bO7 r1) (λx hx=>by rw [List.mem_singleton.1 hx];exact r3)
 · rw [hv];rfl
theorem aTn {bs:List Bd}{l:List Nd}{x:Nd}(hn:x.name=⟨#[]⟩):aCt bs (l++[x])=aCt bs l:=by
 unfold aCt
 rw [List.all_append]
 simp [hn]
end Go.V
namespace Go.V
open Go.N Go.Proofs
set_option maxRecDepth 20000
def bB9:Tab:=[(31,i31),(41,i41),(52,i52),(4,i4),(42,i42),(53,i53),(3,i3),(29,i29),(25,i25),(9,i9),(34,i34)]
theorem aB9:TOK Tryz.prog bB9:=⟨K31,⟨K41,⟨K52,⟨K4,⟨K42,⟨K53,⟨K3,⟨K29,⟨K25,⟨K9,⟨K34,trivial⟩⟩⟩⟩⟩⟩⟩⟩⟩⟩⟩
def cSc (p:Int) (k:ByteArray):List AV:=[.str aB4,.int .i64 p,.int .i64 0,.str ⟨#[]⟩,.nils,.str k,.int .i64 0,.nils]
def cAd (p:Int):List AV:=[.str bBe,.int .i64 p,.int .i64 p,.str ⟨#[]⟩,.nils,.str ⟨#[]⟩,.int .i64 0,.nils]
theorem bEs {c c':List AV}(h:aLg c c'):∀l:List Nd,aKp (aAv l++[c]) (aAv l++[c'])
 |[]=>⟨_,_,rfl,h,rfl⟩
 |x::l=>⟨_,_,rfl,aJ0 _,bEs h l⟩
theorem bLm {l:List Nd}{p:Int}{x:Nd}{c:List AV}(h:aLg c x.cells) (b:List (List AV)):
 aLg [.agg [.ro 8 (List.take (aAv l++[c]).length (List.drop 0 (aAv l++[c]))),.int .i64 ((aAv l).length:Nat)],.ro 3 b] [.agg (aKo ⟨l,p⟩ x).cells,.ro 3 b]:=by
 have e:(aKo ⟨l,p⟩ x).cells=[.ro 8 (aAv l++[x.cells]),.int .i64 ((aAv l).length:Nat)]:=by
  rw [rowN_length]
  show [AV.ro 8 (aAv (l++[x])),_]=_
  rw [aAv,List.map_append];rfl
 rw [<- aW2 (aAv l++[c]) rfl,e]
 exact ⟨_,_,rfl,⟨_,rfl,_,_,rfl,⟨_,rfl,bEs h l⟩,_,_,rfl,rfl,rfl⟩,_,_,rfl,aIv _,rfl⟩
theorem cBx (p:Int) (k:ByteArray):aLg (cSc p k) (ndS p k).cells:=
 ⟨_,_,rfl,rfl,_,_,rfl,rfl,_,_,rfl,rfl,_,_,rfl,rfl,_,_,rfl,aDa 1,_,_,rfl,rfl,_,_,rfl,rfl,_,_,rfl,aDa 1,rfl⟩
theorem cBw (p:Int):aLg (cAd p) (bFy p).cells:=
 ⟨_,_,rfl,rfl,_,_,rfl,rfl,_,_,rfl,rfl,_,_,rfl,rfl,_,_,rfl,aDa 1,_,_,rfl,rfl,_,_,rfl,rfl,_,_,rfl,aDa 1,rfl⟩
set_option maxHeartbeats 8000000 in
open Classical in
theorem bCz (g:Gr) (bs:List Bd) (k:ByteArray) (hbb:bs.length*64<=140737488351232):aAc Tryz.prog GL 4 [.agg g.cells,.ro 3 (aA5 bs),.str k] (λr=>r= .bool true):=by
 have haw:=aZb
 obtain ⟨l,p⟩:=g
 show aAc _ _ _ [.agg [.ro 8 (aAv l),.int .i64 p],.ro 3 (aA5 bs),.str k] _
 have hsm:=aK5 GL ⟨l,p⟩
 have hrf:=bTy bs hbb
 have hsb:=aK6 bs
 have hlr:=rowN_length l
 have hbr:=aBk bs
 cases hS:aFh ⟨l,p⟩
 · rw [hS] at hsm
   refine aAa aB9 HM Tryz.func4 rfl (by decide +kernel) (by decide +kernel) rfl ?_
   repeat' first|refine sY ⟨?_⟩|(refine sq ?_ ?_<;>refine λh=>⟨?_⟩<;>(first|contradiction|(exfalso;omega)|skip))|fail
   all_goals (conv=>whnf)
   all_goals rfl
 rw [hS] at hsm
 simp only [aFh,Bool.and_eq_true,decide_eq_true_eq,List.all_eq_true] at hS
 obtain ⟨hl,hs⟩:=hS
 have hs:=λx hx=>aMn (hs x hx)
 cases hB:aGk bs
 · rw [hB] at hsb
   refine aAa aB9 HM Tryz.func4 rfl (by decide +kernel) (by decide +kernel) rfl ?_
   repeat' first|refine sY ⟨?_⟩|(refine sq ?_ ?_<;>refine λh=>⟨?_⟩<;>(first|contradiction|(exfalso;omega)|skip))|fail
   all_goals (conv=>whnf)
   all_goals rfl
 rw [hB] at hsb
 obtain ⟨hbl,hbs⟩:=aKl hB
 have hcm:=bEv l p bs (by omega) hs (by omega) hbs
 by_cases hC:aP4 l bs<=400
 case neg=>
  rw [decide_eq_false hC] at hcm
  refine aAa aB9 HM Tryz.func4 rfl (by decide +kernel) (by decide +kernel) rfl ?_
  repeat' first|refine sY ⟨?_⟩|(refine sq ?_ ?_<;>refine λh=>⟨?_⟩<;>(first|contradiction|(exfalso;omega)|skip))|fail
  all_goals (conv=>whnf)
  all_goals rfl
 rw [decide_eq_true hC] at hcm
 by_cases h38:l.length<=38
 case neg=>
  refine aAa aB9 HM Tryz.func4 rfl (by decide +kernel) (by decide +kernel) rfl ?_
  repeat' first|refine sY ⟨?_⟩|(refine sq ?_ ?_<;>refine λh=>⟨?_⟩<;>(first|contradiction|(exfalso;omega)|skip))|fail
  all_goals (conv=>whnf)
  all_goals rfl
 by_cases h20:k.size<=20
 case neg=>
  refine aAa aB9 HM Tryz.func4 rfl (by decide +kernel) (by decide +kernel) rfl ?_
  repeat' first|refine sY ⟨?_⟩|(refine sq ?_ ?_<;>refine λh=>⟨?_⟩<;>(first|contradiction|(exfalso;omega)|skip))|fail
  all_goals (conv=>whnf)
  all_goals rfl
 have hrr:=aLs k (by omega)
 cases hk:aBa k
 · rw [hk] at hrr
   refine aAa aB9 HM Tryz.func4 rfl (by decide +kernel) (by decide +kernel) rfl ?_
   repeat' first|refine sY ⟨?_⟩|(refine sq ?_ ?_<;>refine λh=>⟨?_⟩<;>(first|contradiction|(exfalso;omega)|skip))|fail
   all_goals (conv=>whnf)
   all_goals rfl
 rw [hk] at hrr
 have hGi:=λh=>aFz (g:=⟨l,p⟩) h hs bs hbs hC
 dsimp only at hGi
 have hf:=aM4 bs ⟨l,p⟩ hs (by dsimp only;omega) (by omega) hbs (λh=>aFm (hGi h)) (λh=>aFa (hGi h))
 have okS:aC1 (aKo ⟨l,p⟩ (ndS p k))=aC1 ⟨l,p⟩:=bFv (by dsimp only;omega) rfl rfl (bNf hk)
 have okA:aC1 (aKo ⟨l,p⟩ (bFy p))=aC1 ⟨l,p⟩:=bFv (by dsimp only;omega) rfl rfl bNe
 have hlen:∀x:Nd,(aKo ⟨l,p⟩ x).nodes.length<=1000:=λx=>by
  show (l++[x]).length<=1000
  rw [List.length_append,List.length_singleton];omega
 have hsmm:∀x:Nd,x.Sm->∀y∈(aKo ⟨l,p⟩ x).nodes,y.Sm:=λx hx y hy=>by
  rcases List.mem_append.1 (show y∈l++[x] from hy) with h|h
  · exact hs y h
  · rw [List.mem_singleton.1 h];exact hx
 have smS:(ndS p k).Sm:=⟨(show (⟨#[]⟩:ByteArray).size<=1000 by decide),(show k.size<=1000 by omega),Nat.zero_le _,Nat.zero_le _,λz hz=>by simp [ndS] at hz⟩
 have smA:(bFy p).Sm:=⟨(show (⟨#[]⟩:ByteArray).size<=1000 by decide),(show (⟨#[]⟩:ByteArray).size<=1000 by decide),Nat.zero_le _,Nat.zero_le _,λz hz=>by simp [bFy] at hz⟩
 have hMS:=λh=>bI3 (g:=⟨l,p⟩) h (hGi h) hk h20
 have hMA:=λh=>bQ7 (g:=⟨l,p⟩) h (hGi h)
 have hfS:=aM4 bs (aKo ⟨l,p⟩ (ndS p k)) (hsmm _ smS) (hlen _) (by omega) hbs (λh=>(hMS (okS.symm.trans h)).1.good) (λh=>(hMS (okS.symm.trans h)).1.len)
 have hfA:=aM4 bs (aKo ⟨l,p⟩ (bFy p)) (hsmm _ smA) (hlen _) (by omega) hbs (λh=>(hMA (okA.symm.trans h)).good) (λh=>(hMA (okA.symm.trans h)).len)
 rw [okS,show aCt bs (aKo ⟨l,p⟩ (ndS p k)).nodes=aCt bs l from aTn rfl] at hfS
 rw [okA,show aCt bs (aKo ⟨l,p⟩ (bFy p)).nodes=aCt bs l from aTn rfl] at hfA
 have hfS:=hfS.args (bLm (cBx p k) (aA5 bs))
 have hfA:=hfA.args (bLm (cBw p) (aA5 bs))
 have hr:aAv l++[cSc p k]=List.take (aAv l).length (aAv l)++[cSc p k]:=by rw [List.take_length]
 have hq:aAv l++[cAd p]=List.take (aAv l).length (aAv l)++[cAd p]:=by rw [List.take_length]
 generalize aAv l++[cSc p k]=r at hr hfS
 generalize aAv l++[cAd p]=q at hq hfA
 clear okS okA hlen hsmm smS smA hGi
 cases hg:aC1 ⟨l,p⟩
 · rw [hg,if_neg (by simp)] at hf hfS hfA
   clear hMS hMA
   refine aAa aB9 HM Tryz.func4 rfl (by decide +kernel) (by decide +kernel) rfl ?_
   repeat' first|refine sY ⟨?_⟩|(refine sq ?_ ?_<;>refine λh=>⟨?_⟩<;>(first|contradiction|(exfalso;omega)|skip))|fail
   refine ⟨by decide +kernel,[0,0,2,7,0,16,0,112,240,511,0,2047,0,8191],by decide +kernel,?_⟩
   repeat' first|refine sY ⟨?_⟩|(refine sq ?_ ?_<;>refine λh=>⟨?_⟩<;>(first|contradiction|(exfalso;omega)|skip))|fail
   conv=>whnf
   refine ⟨Nat.le_refl _,(show (0+(aAv l).length)*120<=140737488355328 by omega),aAv l,rfl,?_⟩
   repeat' first|refine sY ⟨?_⟩|(refine sq ?_ ?_<;>refine λh=>⟨?_⟩<;>(first|contradiction|(exfalso;omega)|skip))|fail
   conv=>whnf
   refine ⟨Nat.le_refl _,(show ((aAv l).length+1)*120<=140737488355328 by omega),r,hr,?_⟩
   repeat' first|refine sY ⟨?_⟩|(refine sq ?_ ?_<;>refine λh=>⟨?_⟩<;>(first|contradiction|(exfalso;omega)|skip))|fail
   refine ⟨by decide +kernel,[0,0,2,7,0,16,0,64,240,496,1023,0,4095,0,16383],by decide +kernel,?_⟩
   repeat' first|refine sY ⟨?_⟩|(refine sq ?_ ?_<;>refine λh=>⟨?_⟩<;>(first|contradiction|(exfalso;omega)|skip))|fail
   conv=>whnf
   refine ⟨Nat.le_refl _,(show (0+(aAv l).length)*120<=140737488355328 by omega),aAv l,rfl,?_⟩
   repeat' first|refine sY ⟨?_⟩|(refine sq ?_ ?_<;>refine λh=>⟨?_⟩<;>(first|contradiction|(exfalso;omega)|skip))|fail
   conv=>whnf
   refine ⟨Nat.le_refl _,(show ((aAv l).length+1)*120<=140737488355328 by omega),q,hq,?_⟩
   repeat' first|refine sY ⟨?_⟩|(refine sq ?_ ?_<;>refine λh=>⟨?_⟩<;>(first|contradiction|(exfalso;omega)|skip))|fail
   all_goals (conv=>whnf)
   all_goals rfl
 have hMS:=hMS hg
 have hMA:=hMA hg
 rw [hg,if_pos rfl] at hf hfS hfA
 dsimp only at hf
 cases hA:aCt bs l
 · rw [hA,if_neg (by simp)] at hf hfS hfA
   clear hMS hMA
   refine aAa aB9 HM Tryz.func4 rfl (by decide +kernel) (by decide +kernel) rfl ?_
   repeat' first|refine sY ⟨?_⟩|(refine sq ?_ ?_<;>refine λh=>⟨?_⟩<;>(first|contradiction|(exfalso;omega)|skip))|fail
   refine ⟨by decide +kernel,[0,0,2,7,0,16,0,112,240,511,0,2047,0,8191],by decide +kernel,?_⟩
   repeat' first|refine sY ⟨?_⟩|(refine sq ?_ ?_<;>refine λh=>⟨?_⟩<;>(first|contradiction|(exfalso;omega)|skip))|fail
   conv=>whnf
   refine ⟨Nat.le_refl _,(show (0+(aAv l).length)*120<=140737488355328 by omega),aAv l,rfl,?_⟩
   repeat' first|refine sY ⟨?_⟩|(refine sq ?_ ?_<;>refine λh=>⟨?_⟩<;>(first|contradiction|(exfalso;omega)|skip))|fail
   conv=>whnf
   refine ⟨Nat.le_refl _,(show ((aAv l).length+1)*120<=140737488355328 by omega),r,hr,?_⟩
   repeat' first|refine sY ⟨?_⟩|(refine sq ?_ ?_<;>refine λh=>⟨?_⟩<;>(first|contradiction|(exfalso;omega)|skip))|fail
   refine ⟨by decide +kernel,[0,0,2,7,0,16,0,64,240,496,1023,0,4095,0,16383],by decide +kernel,?_⟩
   repeat' first|refine sY ⟨?_⟩|(refine sq ?_ ?_<;>refine λh=>⟨?_⟩<;>(first|contradiction|(exfalso;omega)|skip))|fail
   conv=>whnf
   refine ⟨Nat.le_refl _,(show (0+(aAv l).length)*120<=140737488355328 by omega),aAv l,rfl,?_⟩
   repeat' first|refine sY ⟨?_⟩|(refine sq ?_ ?_<;>refine λh=>⟨?_⟩<;>(first|contradiction|(exfalso;omega)|skip))|fail
   conv=>whnf
   refine ⟨Nat.le_refl _,(show ((aAv l).length+1)*120<=140737488355328 by omega),q,hq,?_⟩
   repeat' first|refine sY ⟨?_⟩|(refine sq ?_ ?_<;>refine λh=>⟨?_⟩<;>(first|contradiction|(exfalso;omega)|skip))|fail
   all_goals (conv=>whnf)
   all_goals rfl
 rw [hA,if_pos rfl] at hf hfS hfA
 have hm:=aTs hMS.2.1 hMS.2.2
 have ha:=aY4 hMS.2.1 hMS.2.1
 rw [aHv hk] at hm
 dsimp only at hMS hMA
 rw [hMS.1.loss] at hfS
 rw [hMA.loss] at hfA
 clear hMS hMA
 generalize aAw (aGc bs ⟨l,p⟩*aN1 k)=s1 at hm hfS
 generalize aAw (aGc bs ⟨l,p⟩+aGc bs ⟨l,p⟩)=s2 at ha hfA
 generalize aAw (aGc bs ⟨l,p⟩)=s0 at hm ha hf
 refine aAa aB9 HM Tryz.func4 rfl (by decide +kernel) (by decide +kernel) rfl ?_
 repeat' first|refine sY ⟨?_⟩|(refine sq ?_ ?_<;>refine λh=>⟨?_⟩<;>(first|contradiction|(exfalso;omega)|skip))|fail
 refine ⟨by decide +kernel,[0,0,2,7,0,16,0,112,240,511,0,2047,0,8191],by decide +kernel,?_⟩
 repeat' first|refine sY ⟨?_⟩|(refine sq ?_ ?_<;>refine λh=>⟨?_⟩<;>(first|contradiction|(exfalso;omega)|skip))|fail
 conv=>whnf
 refine ⟨Nat.le_refl _,(show (0+(aAv l).length)*120<=140737488355328 by omega),aAv l,rfl,?_⟩
 repeat' first|refine sY ⟨?_⟩|(refine sq ?_ ?_<;>refine λh=>⟨?_⟩<;>(first|contradiction|(exfalso;omega)|skip))|fail
 conv=>whnf
 refine ⟨Nat.le_refl _,(show ((aAv l).length+1)*120<=140737488355328 by omega),r,hr,?_⟩
 repeat' first|refine sY ⟨?_⟩|(refine sq ?_ ?_<;>refine λh=>⟨?_⟩<;>(first|contradiction|(exfalso;omega)|skip))|fail
 refine ⟨by decide +kernel,[0,0,2,7,0,16,0,64,240,496,1023,0,4095,0,16383],by decide +kernel,?_⟩
 repeat' first|refine sY ⟨?_⟩|(refine sq ?_ ?_<;>refine λh=>⟨?_⟩<;>(first|contradiction|(exfalso;omega)|skip))|fail
 conv=>whnf
 refine ⟨Nat.le_refl _,(show (0+(aAv l).length)*120<=140737488355328 by omega),aAv l,rfl,?_⟩
 repeat' first|refine sY ⟨?_⟩|(refine sq ?_ ?_<;>refine λh=>⟨?_⟩<;>(first|contradiction|(exfalso;omega)|skip))|fail
 conv=>whnf
 refine ⟨Nat.le_refl _,(show ((aAv l).length+1)*120<=140737488355328 by omega),q,hq,?_⟩
 repeat' first|refine sY ⟨?_⟩|(refine sq ?_ ?_<;>refine λh=>⟨?_⟩<;>(first|contradiction|(exfalso;omega)|skip))|fail
 all_goals (conv=>whnf)
 all_goals rfl
end Go.V
