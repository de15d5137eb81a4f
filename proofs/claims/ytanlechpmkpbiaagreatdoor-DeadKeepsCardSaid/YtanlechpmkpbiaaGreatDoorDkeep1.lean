/-
  Lemmas (part 1) for: DeadKeeps holds for all arguments; no condition.
-/
import Derived.Test.YtanlechpmkpbiaaGreatDoorKeep5
set_option linter.all false
namespace Go.V
open Go.N Go.Proofs
section
variable (gl:Gl)
def i69:TI:=⟨.slice 4,1,24,(.slice none 0 0),[1]⟩
theorem K69:TFact Tryz.prog 69 i69:=⟨aA3 Tryz.type69 rfl,by decide +kernel,by decide +kernel⟩
def cH6:TI:=⟨.fn,1,8,.nilFunc,[0]⟩
theorem cH7:TFact Tryz.prog 162 cH6:=⟨aA3 Tryz.type162 rfl,by decide +kernel,by decide +kernel⟩
def cGk:Tab:=[(22,i22),(3,i3)]
theorem cF2:TOK Tryz.prog cGk:=⟨K22,⟨K3,trivial⟩⟩
def cFe:Tab:=[(22,i22),(3,i3),(162,cH6)]
theorem cE3:TOK Tryz.prog cFe:=⟨K22,⟨K3,⟨cH7,trivial⟩⟩⟩
theorem cGl (f:FuncId) (cs:List AV) (l:List Int) (p:Int->Bool) (hll:l.length<9000000000) (hc:∀x∈l,aAc Tryz.prog gl f [.int .i64 x,.rp cs] (λy=>y= .bool (p x))):
 aAc Tryz.prog gl 129 [.ro 1 (aAh l),.fn f [.rp cs]] (λx=>∃k:Int,x= .int .i64 k/\(0<=k↔l.any p=true)):=by
 refine aAa cF2 HM Tryz.func129 rfl (by decide +kernel) (by decide +kernel) rfl ?_
 have hl:(aAh l).length=l.length:=rowZ_length l
 repeat' first|refine sX ⟨?_⟩|(refine sp ?_ ?_<;>refine λh=>⟨?_⟩)|fail
 refine ⟨[0,1,7,8],[],λm st=>∃i:Nat,i<=l.length/\m=l.length - i/\(l.take i).any p=false/\
  st=⟨[(0,.ro 1 (aAh l)),(1,.fn f [.rp cs]),(7,.int .i64 ((aAh l).length:Nat)),(8,.int .i64 (i:Nat))],[]⟩,rfl,⟨l.length,0,by omega,rfl,by simp,rfl⟩,?_⟩
 rintro m _ ⟨i,hi,hm,ha,rfl⟩
 rcases Nat.lt_or_ge i l.length with hil|hge
 · have g:=aE6 hil
   have hci:=hc l[i] (List.getElem_mem hil)
   cases hp:p l[i]
   · rw [hp] at hci
     repeat' first|refine sX ⟨?_⟩|(refine sp ?_ ?_<;>refine λh=>⟨?_⟩)|fail
     all_goals try omega
     conv=>whnf
     refine .inl ⟨_,hci,?_⟩
     rintro _ rfl
     repeat' first|refine sX ⟨?_⟩|(refine sp ?_ ?_<;>refine λh=>⟨?_⟩)|fail
     exact ⟨[],l.length - (i+1),rfl,by omega,i+1,by omega,rfl,aVj hil ha hp,rfl⟩
   · rw [hp] at hci
     repeat' first|refine sX ⟨?_⟩|(refine sp ?_ ?_<;>refine λh=>⟨?_⟩)|fail
     all_goals try omega
     conv=>whnf
     refine .inl ⟨_,hci,?_⟩
     rintro _ rfl
     repeat' first|refine sX ⟨?_⟩|(refine sp ?_ ?_<;>refine λh=>⟨?_⟩)|fail
     conv=>whnf
     refine ⟨i,rfl,?_⟩
     rw [bCv hil hp]
     simp
 · repeat' first|refine sX ⟨?_⟩|(refine sp ?_ ?_<;>refine λh=>⟨?_⟩)|fail
   all_goals try omega
   conv=>whnf
   rw [List.take_of_length_le (by omega)] at ha
   exact ⟨-1,rfl,by rw [ha];simp⟩
theorem cFf (f:FuncId) (cs:List AV) (l:List Int) (p:Int->Bool) (hll:l.length<9000000000) (hc:∀x∈l,aAc Tryz.prog gl f [.int .i64 x,.rp cs] (λy=>y= .bool (p x))):
 aAc Tryz.prog gl 122 [.ro 1 (aAh l),.fn f [.rp cs]] (λx=>x= .bool (l.any p)):=by
 refine aAa cE3 HM Tryz.func122 rfl (by decide +kernel) (by decide +kernel) rfl ?_
 repeat' first|refine sX ⟨?_⟩|(refine sp ?_ ?_<;>refine λh=>⟨?_⟩)|fail
 conv=>whnf
 refine .inl ⟨_,cGl gl f cs l p hll hc,?_⟩
 rintro _ ⟨k,rfl,hk⟩
 have e:l.any p=decide (0<=k):=by rw [Bool.eq_iff_iff,decide_eq_true_eq,hk]
 repeat' first|refine sX ⟨?_⟩|(refine sp ?_ ?_<;>refine λh=>⟨?_⟩)|fail
 conv=>whnf
 exact congrArg AV.bool e.symm
def cEp (x:Nd):List Int:=match aBh x.op with|some 0=>[]|some 2=>[x.a,x.b]|_=>[x.a]
theorem cHx {a b c d e f:AV}(h1:aC7 a d) (h2:aC7 b e) (h3:aC7 c f):aC7 (.tup [a,b,c]) (.tup [d,e,f]):=⟨_,rfl,_,_,rfl,h1,_,_,rfl,h2,_,_,rfl,h3,rfl⟩
def cHe:Tab:=[(25,i25),(9,i9),(3,i3),(22,i22)]
theorem cGc:TOK Tryz.prog cHe:=⟨K25,⟨K9,⟨K3,⟨K22,trivial⟩⟩⟩⟩
theorem cFb (x:Nd):aAc Tryz.prog gl 61 [.agg x.cells] (λy=>y= .ro 1 (aAh (cEp x))):=by
 obtain ⟨op,a,b,name,shape,k,n,data⟩:=x
 refine aAc.taken ?_
 rcases aMe op with ⟨o,rfl⟩|hn
 · refine aAa cGc HM Tryz.func61 rfl (by decide +kernel) (by decide +kernel) rfl ?_
   cases o
   all_goals (repeat' first|refine sX ⟨?_⟩|(refine sp ?_ ?_<;>refine λh=>⟨?_⟩)|fail)
   all_goals (conv=>whnf)
   all_goals first|exact ⟨_,(show aC7 .nils (.ro 1 []) from ⟨1,rfl⟩),rfl⟩|exact ⟨_,rfl,rfl⟩
 · have e1:cEp ⟨op,a,b,name,shape,k,n,data⟩=[a]:=by simp only [cEp,hn]
   rw [e1]
   refine aAa cGc HM Tryz.func61 rfl (by decide +kernel) (by decide +kernel) rfl ?_
   repeat' first|refine sX ⟨?_⟩|(refine sp ?_ ?_<;>refine λh=>⟨?_⟩)|fail
   all_goals first|exact absurd hn (by rw [show op=_ from h];decide)|skip
   conv=>whnf
   exact ⟨_,rfl,rfl⟩
def cHy (g:Gr) (keep:List Int) (m j:Nat):Prop:=(j:Int)=g.loss\/(j:Int)∈keep\/∃k x,m<=k/\g.nodes[k]? =some x/\cCj x j=true/\NeedP g keep k
theorem cGw {g:Gr}{keep:List Int}{i:Nat}{x:Nd}(hx:g.nodes[i]? =some x):NeedP g keep i↔cHy g keep (i+1) i\/x.name≠⟨#[]⟩:=by
 constructor
 · intro h
   cases h with
   |loss h=>exact .inl (.inl h)
   |keep h=>exact .inl (.inr (.inl h))
   |name h1 h2=>rw [hx] at h1;cases h1;exact .inr h2
   |use h1 h2 h3 h4=>exact .inl (.inr (.inr ⟨_,_,h1,h2,h3,h4⟩))
 · rintro ((h|h|⟨k,y,h1,h2,h3,h4⟩)|h)
   · exact .loss h
   · exact .keep h
   · exact .use h1 h2 h3 h4
   · exact .name hx h
theorem cHo {g:Gr}{keep:List Int}{i j:Nat}{x:Nd}(hx:g.nodes[i]? =some x):cHy g keep i j↔cHy g keep (i+1) j\/(NeedP g keep i/\cCj x j=true):=by
 constructor
 · rintro (h|h|⟨k,y,h1,h2,h3,h4⟩)
   · exact .inl (.inl h)
   · exact .inl (.inr (.inl h))
   · rcases Nat.eq_or_lt_of_le h1 with h|h
     · subst h;rw [hx] at h2;cases h2;exact .inr ⟨h4,h3⟩
     · exact .inl (.inr (.inr ⟨k,y,h,h2,h3,h4⟩))
 · rintro ((h|h|⟨k,y,h1,h2,h3,h4⟩)|⟨h1,h2⟩)
   · exact .inl h
   · exact .inr (.inl h)
   · exact .inr (.inr ⟨k,y,by omega,h2,h3,h4⟩)
   · exact .inr (.inr ⟨i,x,Nat.le_refl _,hx,h2,h1⟩)
theorem cHu {g:Gr}{keep:List Int}{m j:Nat}(h:g.nodes.length<=m):cHy g keep m j↔(j:Int)=g.loss\/(j:Int)∈keep:=by
 constructor
 · rintro (h1|h1|⟨k,y,h1,h2,h3,h4⟩)
   · exact .inl h1
   · exact .inr h1
   · have:=(List.getElem?_eq_some_iff.1 h2).1;omega
 · rintro (h1|h1)
   · exact .inl h1
   · exact .inr (.inl h1)
open Classical in
noncomputable def NB (g:Gr) (keep:List Int) (j:Nat):Bool:=decide (NeedP g keep j)
theorem cEv {g:Gr}{keep:List Int}{j:Nat}:NB g keep j=true↔NeedP g keep j:=by simp [NB]
theorem cFg {n k:Nat}{F:Nat->Bool}(h:k<n):(fB n F)[k]? =some [.bool (F k)]:=by simp [fB,h]
def cF1 (F:Nat->Bool) (k:Nat) (v:Bool):Nat->Bool:=λj=>if j=k then v else F j
theorem cE8 (n k:Nat) (F:Nat->Bool) (v:Bool):(fB n F).set k [.bool v]=fB n (cF1 F k v):=by
 refine List.ext_getElem? λj=>?_
 rw [List.getElem?_set]
 by_cases hj:j<n
 · by_cases hk:k=j
   · subst hk;simp [fB,hj,cF1]
   · simp [hk,fB,hj,cF1,show ¬j=k from λe=>hk e.symm]
 · have:(fB n (cF1 F k v))[j]? =none:=by simp [fB,hj]
   rw [this]
   by_cases hk:k=j
   · simp [hk,hj]
   · simp [hk,fB,hj]
theorem cHt (n:Nat):List.replicate n [.bool false]=fB n λ_=>false:=by simp [fB,List.map_const']
theorem cHk {n:Nat}{F G:Nat->Bool}(h:∀j,j<n->F j=G j):fB n F=fB n G:=List.map_congr_left λj hj=>by rw [h j (List.mem_range.1 hj)]
theorem cF0 (F:Nat->Bool) (k:Nat) (v:Bool):cF1 F k v k=v:=if_pos rfl
theorem cGu (F:Nat->Bool){k j:Nat}(v:Bool) (h:j≠k):cF1 F k v j=F j:=if_neg h
def cEx (g:Gr) (keep:List Int):Bool:= !(keep.any λx=>decide (x<0) || decide ((g.nodes.length:Int)<=x))
def cEu (g:Gr) (keep:List Int):Bool:=aC1 g && cEx g keep
theorem cE7 {g:Gr}{keep:List Int}(h:cEx g keep=true){x:Int}(hx:x∈keep):∃k:Nat,x=k/\k<g.nodes.length:=by
 simp only [cEx,Bool.not_eq_true',List.any_eq_false] at h
 have:=h x hx
 simp only [Bool.or_eq_true,decide_eq_true_eq] at this
 exact ⟨x.toNat,by omega,by omega⟩
theorem cGn {g:Gr}(h:aC1 g=true){i:Nat}{x:Nd}(hx:g.nodes[i]? =some x):∃m,aBh x.op=some m/\Fit (g.nodes.take i) x m:=by
 have h1:=aOt h hx
 cases hp:aBh x.op with
 |none=>rw [aK9 hp] at h1;cases h1
 |some m=>
  cases hf:aN8 (g.nodes.take i) x m with
  |false=>rw [aEd hp hf] at h1;cases h1
  |true=>exact ⟨m,rfl,(aI7 _ _ _).1 hf⟩
theorem cGi {l:List Nd}{i:Nat}{a:Int}(h:inR a (l.take i)=true):∃k:Nat,a=k/\k<i:=by
 obtain ⟨k,hk,hl⟩:=aBc h
 exact ⟨k,hk,by rw [List.length_take] at hl;omega⟩
theorem cE1 {g:Gr}(h:aC1 g=true){i:Nat}{x:Nd}(hx:g.nodes[i]? =some x):∀p∈cEp x,∃k:Nat,p=k/\k<i:=by
 obtain ⟨m,hp,F⟩:=cGn h hx
 have hm:=aNi hp
 intro p hpm
 rw [cEp,hp] at hpm
 have h3:m=0\/m=1\/m=2:=by omega
 rcases h3 with rfl|rfl|rfl
 · simp at hpm
 · simp at hpm;subst hpm;exact cGi (F.ia (by decide))
 · simp at hpm
   rcases hpm with rfl|rfl
   · exact cGi (F.ia (by decide))
   · exact cGi (F.ib (by decide))
theorem cGs {g:Gr}(h:aC1 g=true){i:Nat}{x:Nd}(hx:g.nodes[i]? =some x) (j:Nat):cCj x j=true↔(j:Int)∈cEp x:=by
 obtain ⟨m,hp,F⟩:=cGn h hx
 have hm:=aNi hp
 have h3:m=0\/m=1\/m=2:=by omega
 rw [cCj,cEp,aIp,hp]
 rcases h3 with rfl|rfl|rfl
 · show (false && decide (x.a=(j:Int)) || false && decide (x.b=(j:Int)))=true↔(j:Int)∈[]
   simp only [Bool.false_and,Bool.or_false,List.not_mem_nil,Bool.false_eq_true]
 · show (true && decide (x.a=(j:Int)) || false && decide (x.b=(j:Int)))=true↔(j:Int)∈[x.a]
   simp only [Bool.true_and,Bool.false_and,Bool.or_false,decide_eq_true_eq,List.mem_singleton]
   exact eq_comm
 · show (true && decide (x.a=(j:Int)) || true && decide (x.b=(j:Int)))=true↔(j:Int)∈[x.a,x.b]
   simp only [Bool.true_and,Bool.or_eq_true,decide_eq_true_eq,List.mem_cons,List.not_mem_nil,or_false]
   exact ⟨λe=>e.imp Eq.symm Eq.symm,λe=>e.imp Eq.symm Eq.symm⟩
def cG5:Tab:=[(31,i31),(4,i4),(22,i22),(3,i3),(162,cH6),(29,i29),(25,i25),(69,i69),(9,i9)]
theorem cFd:TOK Tryz.prog cG5:=⟨K31,⟨K4,⟨K22,⟨K3,⟨cH7,⟨K29,⟨K25,⟨K69,⟨K9,trivial⟩⟩⟩⟩⟩⟩⟩⟩⟩
def cH4:Tab:=[(3,i3),(31,i31),(29,i29),(25,i25)]
theorem cHp:TOK Tryz.prog cH4:=⟨K3,⟨K31,⟨K29,⟨K25,trivial⟩⟩⟩⟩
theorem cH5 (gl:Gl) (l:List Nd) (p x:Int):aAc Tryz.prog gl 123 [.int .i64 x,.rp [.ro 8 (aAv l),.int .i64 p]] (λy=>y= .bool (decide (x<0) || decide ((l.length:Int)<=x))):=by
 rw [<- rowN_length]
 refine aAa cHp HM Tryz.func123 rfl (by decide +kernel) (by decide +kernel) rfl ?_
 repeat' first|refine sY ⟨?_⟩|(refine sq ?_ ?_<;>refine λh=>⟨?_⟩<;>(first|contradiction|(exfalso;omega)|skip))|fail
 all_goals (conv=>whnf)
 · exact congrArg AV.bool (by simp [h])
 · exact congrArg AV.bool (by simp [h])
theorem cG0 (x:Nd):(cEp x).length<=2:=by unfold cEp;split<;>simp
set_option maxHeartbeats 4000000 in
theorem cG7 (g:Gr) (keep:List Int) (hs:∀x∈g.nodes,x.Sm) (hl:g.nodes.length<=1000) (hk:keep.length<=1000):
 aAc Tryz.prog GL 60 [.agg g.cells,.ro 1 (aAh keep)] (λy=>y=if cEu g keep=true then .tup [.ro 1 (fB g.nodes.length (NB g keep)),.int .i64 0] else .tup [.ro 1 [],.int .i64 1]):=by
 have hR:=bE1 g hs hl
 have hpre:=@aMd g
 have hpt:=@cE1 g
 have hus:=@cGs g
 have hcf:=cFf GL 123 [.ro 8 (aAv g.nodes),.int .i64 g.loss] keep (λx=>decide (x<0) || decide ((g.nodes.length:Int)<=x)) (by omega) (λx _=>cH5 GL g.nodes g.loss x)
 have hke:=@cE7 g keep
 have hk2:cEx g keep= !(keep.any λx=>decide (x<0) || decide ((g.nodes.length:Int)<=x)):=rfl
 generalize (keep.any λx=>decide (x<0) || decide ((g.nodes.length:Int)<=x))=bad at hcf hk2
 refine aAc.taken ?_
 cases hok:cEu g keep
 · rw [if_neg (by simp)]
   obtain ⟨l,p⟩:=g
   show aAc _ _ _ [.agg [.ro 8 (aAv l),.int .i64 p],_] _
   refine aAa cFd HM Tryz.func60 rfl (by decide +kernel) (by decide +kernel) rfl ?_
   cases hg:aC1 ⟨l,p⟩
   · rw [hg] at hR
     repeat' first|refine sY ⟨?_⟩|(refine sq ?_ ?_<;>refine λh=>⟨?_⟩<;>(first|contradiction|(exfalso;omega)|skip))|fail
     all_goals (conv=>whnf)
     all_goals exact ⟨_,aAf (show aC7 .nils (.ro 1 []) from ⟨1,rfl⟩) rfl,rfl⟩
   · rw [hg] at hR
     have hb:bad=true:=by
      rw [cEu,hg,hk2] at hok
      cases bad
      · exact absurd hok (by decide)
      · rfl
     rw [hb] at hcf
     repeat' first|refine sY ⟨?_⟩|(refine sq ?_ ?_<;>refine λh=>⟨?_⟩<;>(first|contradiction|(exfalso;omega)|skip))|fail
     all_goals (conv=>whnf)
     all_goals exact ⟨_,aAf (show aC7 .nils (.ro 1 []) from ⟨1,rfl⟩) rfl,rfl⟩
 have hg:aC1 g=true:=by simp only [cEu,Bool.and_eq_true] at hok;exact hok.1
 have hkk:cEx g keep=true:=by simp only [cEu,Bool.and_eq_true] at hok;exact hok.2
 rw [if_pos rfl]
 have hb:bad=false:=by rw [hkk] at hk2;cases bad;rfl;exact absurd hk2 (by decide)
 rw [hb] at hcf
 rw [hg] at hR
 obtain ⟨h1,h2,q,hq1,hq⟩:=hpre hg
 have hpt1:=λ{i:Nat} {x:Nd}=>@hpt hg i x
 have hus1:=λ{i:Nat} {x:Nd}=>@hus hg i x
 have hke1:=@hke hkk
 clear hpt hus hke
 have hni:=@cGw g keep
 have hps:=@cHo g keep
 have hpt2:=@cHu g keep
 have hNB:=@cEv g keep
 have hget:∀i (h:i<g.nodes.length),g.nodes[i]? =some g.nodes[i]:=λi h=>List.getElem?_eq_getElem h
 clear hok hkk hk2 hg hpre
 obtain ⟨l,p⟩:=g
 dsimp only at*
 subst hq1
 generalize NB ⟨l,(q:Int)⟩ keep=N at hNB ⊢
 generalize NeedP ⟨l,(q:Int)⟩ keep=NP at hNB hni hps
 generalize cHy ⟨l,(q:Int)⟩ keep=PP at hni hps hpt2
 show aAc _ _ _ [.agg [.ro 8 (aAv l),.int .i64 (q:Nat)],_] _
 have hlr:=rowN_length l
 have hkl:=rowZ_length keep
 refine aAa cFd HM Tryz.func60 rfl (by decide +kernel) (by decide +kernel) rfl ?_
 repeat' first|refine sY ⟨?_⟩|(refine sq ?_ ?_<;>refine λh=>⟨?_⟩<;>(first|contradiction|(exfalso;omega)|skip))|fail
 refine ⟨by omega,Int.le_refl _,by omega,(show ((aAv l).length:Int)*((1:Nat):Int)<=140737488355328 by omega),l.length,congrArg Nat.cast hlr,?_⟩
 have hz:(List.replicate l.length [AV.bool false])[0+q]? =some [.bool false]:=by simp [hq]
 repeat' first|refine sY ⟨?_⟩|(refine sq ?_ ?_<;>refine λh=>⟨?_⟩<;>(first|contradiction|(exfalso;omega)|skip))|fail
 refine ⟨[2,6,28,29,30],[0,1],λm st=>∃(t:Nat) (F:Nat->Bool),t<=keep.length/\m=keep.length - t/\(∀ j,j<l.length->(F j=true↔(j=q\/(j:Int)∈keep.take t)))/\
  st=⟨[(2,.bptr 0 0),(6,.own 1 0 l.length),(28,.ro 1 (aAh keep)),(29,.int .i64 ((aAh keep).length:Nat)),(30,.int .i64 (t:Nat))],[.box 31 [.ro 8 (aAv l),.int .i64 (q:Nat)],.row false 4 1 (fB l.length F)]⟩,rfl,
  ⟨keep.length,0,cF1 (λ_=>false) q true,by omega,rfl,λj hj=>by unfold cF1;split<;>simp_all,Eq.trans rfl (congrArg (λz=>(⟨[(2,.bptr 0 0),(6,.own 1 0 l.length),(28,.ro 1 (aAh keep)),(29,.int .i64 ((aAh keep).length:Nat)),(30,.int .i64 ((0:Nat):Int))],[.box 31 [.ro 8 (aAv l),.int .i64 (q:Nat)],.row false 4 1 z]⟩:St))
    (show (List.replicate l.length [AV.bool false]).set (0+q) [.bool true]=_ by rw [cHt,Nat.zero_add,cE8]))⟩,?_⟩
 rintro m _ ⟨t,F,ht,hm,hF,rfl⟩
 rcases Nat.lt_or_ge t keep.length with htl|hge
 · obtain ⟨k,hk1,hk2⟩:=hke1 (List.getElem_mem htl)
   have g:(aAh keep)[t]? =some [.int .i64 (k:Nat)]:=by rw [aE6 htl,hk1]
   have g2:(fB l.length F)[0+k]? =some [.bool (F k)]:=by rw [Nat.zero_add];exact cFg hk2
   have e:(fB l.length F).set (0+k) [.bool true]=fB l.length (cF1 F k true):=by rw [Nat.zero_add,cE8]
   have hF':∀j,j<l.length->(cF1 F k true j=true↔(j=q\/(j:Int)∈keep.take (t+1))):=λj hj=>by
    rw [List.take_succ_eq_append_getElem htl,List.mem_append,List.mem_singleton,hk1,Int.ofNat_inj,<-or_assoc,<-hF j hj]
    unfold cF1
    split<;>simp_all
   repeat' first|refine sY ⟨?_⟩|(refine sq ?_ ?_<;>refine λh=>⟨?_⟩<;>(first|contradiction|(exfalso;omega)|skip))|fail
   exact ⟨[0,1],keep.length - (t+1),rfl,by omega,t+1,_,by omega,rfl,hF',Eq.trans rfl (congrArg (λz=>(⟨[(2,.bptr 0 0),(6,.own 1 0 l.length),(28,.ro 1 (aAh keep)),(29,.int .i64 ((aAh keep).length:Nat)),(30,.int .i64 ((t+1:Nat):Int))],[.box 31 [.ro 8 (aAv l),.int .i64 (q:Nat)],.row false 4 1 z]⟩:St)) e)⟩
 rw [List.take_of_length_le (by omega)] at hF
 repeat' first|refine sY ⟨?_⟩|(refine sq ?_ ?_<;>refine λh=>⟨?_⟩<;>(first|contradiction|(exfalso;omega)|skip))|fail
 refine ⟨[2,6,9],[0,1],λm st=>∃(e:Int) (F:Nat->Bool),e=(m:Int) - 1/\m<=l.length/\(∀ j,j<l.length->(F j=true↔(if m<=j then NP j else PP m j)))/\
  st=⟨[(2,.bptr 0 0),(6,.own 1 0 l.length),(9,.int .i64 e)],[.box 31 [.ro 8 (aAv l),.int .i64 (q:Nat)],.row false 4 1 (fB l.length F)]⟩,rfl,
  ⟨l.length,_,F,by omega,Nat.le_refl _,λj hj=>by rw [if_neg (by omega),hpt2 (Nat.le_refl _),hF j hj,Int.ofNat_inj],rfl⟩,?_⟩
 clear hF hm ht hge F
 rintro m _ ⟨e,F,he,hml,hF,rfl⟩
 rcases m with _|i
 · have e1:e= -1:=by omega
   subst e1
   repeat' first|refine sY ⟨?_⟩|(refine sq ?_ ?_<;>refine λh=>⟨?_⟩<;>(first|contradiction|(exfalso;omega)|skip))|fail
   refine .inl ⟨(fB_length _ _).symm,?_⟩
   repeat' first|refine sY ⟨?_⟩|(refine sq ?_ ?_<;>refine λh=>⟨?_⟩<;>(first|contradiction|(exfalso;omega)|skip))|fail
   all_goals (conv=>whnf)
   exact ⟨_,aAf rfl rfl,congrArg (λz=>AV.tup [.ro 1 z,.int .i64 0]) (cHk λj hj=>by
    rw [Bool.eq_iff_iff,hNB,hF j hj,if_pos (Nat.zero_le _)])⟩
 have e1:e=(i:Int):=by omega
 subst e1
 have hil:i<l.length:=by omega
 obtain ⟨x,hx⟩:∃x,x=l[i]:=⟨_,rfl⟩
 have hgx:l[i]? =some x:=by rw [hx];exact hget i hil
 have g:(aAv l)[i]? =some x.cells:=by rw [hx];exact aB1 hil
 have hdp:=cFb GL x
 have hDn:=hpt1 hgx
 have hDu:=λj=>hus1 hgx j
 have hni:=hni hgx
 have hps:=λj=>@hps i j x hgx
 have hFi:F i=true↔PP (i+1) i:=by rw [hF i hil,if_neg (by omega)]
 have hlD:=rowZ_length (cEp x)
 have hD2:=cG0 x
 have g2:(fB l.length F)[0+i]? =some [.bool (F i)]:=by rw [Nat.zero_add];exact cFg hil
 have hloop:∀(D:List Int) (F0:Nat->Bool) (t:Nat) (k:Nat) (v:Bool),(∀ j,j<l.length->(F0 j=true↔(if i<=j then NP j else PP (i+1) j\/(NP i/\(j:Int)∈D.take t))))->k<i->(htD:t<D.length)->D[t]=(k:Int)->
  v=(F0 k || F0 i)->∀j,j<l.length->(cF1 F0 k v j=true↔(if i<=j then NP j else PP (i+1) j\/(NP i/\(j:Int)∈D.take (t+1)))):=λD F0 t k v h0 hki htD hk hv j hj=>by
  rw [List.take_succ_eq_append_getElem htD,hk]
  have hi2:=h0 i hil
  rw [if_pos (Nat.le_refl _)] at hi2
  have hk2:=h0 k (by omega)
  rw [if_neg (by omega)] at hk2
  by_cases hjk:j=k
  · subst hjk
    rw [cF0,if_neg (by omega),hv,Bool.or_eq_true,hk2,hi2]
    simp only [List.mem_append,List.mem_singleton]
    constructor
    · rintro ((h|⟨h,h'⟩)|h)
      · exact .inl h
      · exact .inr ⟨h,.inl h'⟩
      · exact .inr ⟨h,.inr trivial⟩
    · rintro (h|⟨h,h'⟩)
      · exact .inl (.inl h)
      · exact .inr h
  · rw [cGu _ _ hjk,h0 j hj]
    have:¬(j:Int)=(k:Int):=by omega
    simp only [List.mem_append,List.mem_singleton,this,or_false]
 obtain ⟨op,a,b,name,shape,k,n,data⟩:=x
 generalize cEp ⟨op,a,b,name,shape,k,n,data⟩=D at hdp hDn hDu hlD hD2
 dsimp only at hni
 cases hFb:F i
 · rw [hFb] at g2
   have e:(fB l.length F).set (0+i) [.bool (!decide (name=⟨#[]⟩))]=fB l.length (cF1 F i (!decide (name=⟨#[]⟩))):=by rw [Nat.zero_add,cE8]
   have hF0:∀j,j<l.length->(cF1 F i (!decide (name=⟨#[]⟩)) j=true↔(if i<=j then NP j else PP (i+1) j\/(NP i/\(j:Int)∈D.take 0))):=λj hj=>by
    by_cases hji:j=i
    · subst hji
      rw [cF0,if_pos (Nat.le_refl _)]
      rw [hFb] at hFi;simp only [Bool.not_eq_true',decide_eq_false_iff_not];rw [hni,<-hFi];simp
    · rw [cGu _ _ hji,hF j hj]
      by_cases hlt:i<=j
      · rw [if_pos hlt,if_pos (by omega)]
      · rw [if_neg hlt,if_neg (by omega)];simp
   repeat' first|refine sY ⟨?_⟩|(refine sq ?_ ?_<;>refine λh=>⟨?_⟩<;>(first|contradiction|(exfalso;omega)|skip))|fail
   all_goals (refine ⟨[2,6,9,67,68,69],[0,1],λm st=>∃(t:Nat) (F:Nat->Bool),t<=D.length/\m=D.length - t/\(∀ j,j<l.length->(F j=true↔(if i<=j then NP j else PP (i+1) j\/(NP i/\(j:Int)∈D.take t))))/\
    st=⟨[(2,.bptr 0 0),(6,.own 1 0 l.length),(9,.int .i64 (i:Nat)),(67,.ro 1 (aAh D)),(68,.int .i64 ((aAh D).length:Nat)),(69,.int .i64 (t:Nat))],[.box 31 [.ro 8 (aAv l),.int .i64 (q:Nat)],.row false 4 1 (fB l.length F)]⟩,rfl,
    ⟨D.length,0,cF1 F i (!decide (name=⟨#[]⟩)),by omega,rfl,hF0,Eq.trans rfl (congrArg (λz=>(⟨[(2,.bptr 0 0),(6,.own 1 0 l.length),(9,.int .i64 (i:Nat)),(67,.ro 1 (aAh D)),(68,.int .i64 ((aAh D).length:Nat)),(69,.int .i64 ((0:Nat):Int))],[.box 31 [.ro 8 (aAv l),.int .i64 (q:Nat)],.row false 4 1 z]⟩:St)) e)⟩,?_⟩)
   clear hF0 e g2 hFb hFi hF F
   rintro m2 _ ⟨t,F,ht,hm2,hF,rfl⟩
   rcases Nat.lt_or_ge t D.length with htl|hge
   · obtain ⟨k,hk1,hk2⟩:=hDn _ (List.getElem_mem htl)
     have g1:(aAh D)[t]? =some [.int .i64 (k:Nat)]:=by rw [aE6 htl,hk1]
     have g3:(fB l.length F)[0+k]? =some [.bool (F k)]:=by rw [Nat.zero_add];exact cFg (by omega)
     have g4:(fB l.length F)[0+i]? =some [.bool (F i)]:=by rw [Nat.zero_add];exact cFg hil
     cases hFk:F k
     · rw [hFk] at g3
       have e:(fB l.length F).set (0+k) [.bool (F i)]=fB l.length (cF1 F k (F i)):=by rw [Nat.zero_add,cE8]
       have hF':=hloop D F t k (F i) hF hk2 htl hk1 (by rw [hFk];rfl)
       repeat' first|refine sY ⟨?_⟩|(refine sq ?_ ?_<;>refine λh=>⟨?_⟩<;>(first|contradiction|(exfalso;omega)|skip))|fail
       exact ⟨[0,1],D.length - (t+1),rfl,by omega,t+1,_,by omega,rfl,hF',Eq.trans rfl (congrArg (λz=>(⟨[(2,.bptr 0 0),(6,.own 1 0 l.length),(9,.int .i64 (i:Nat)),(67,.ro 1 (aAh D)),(68,.int .i64 ((aAh D).length:Nat)),(69,.int .i64 ((t+1:Nat):Int))],[.box 31 [.ro 8 (aAv l),.int .i64 (q:Nat)],.row false 4 1 z]⟩:St)) e)⟩
     · rw [hFk] at g3
       have e:(fB l.length F).set (0+k) [.bool true]=fB l.length (cF1 F k true):=by rw [Nat.zero_add,cE8]
       have hF':=hloop D F t k true hF hk2 htl hk1 (by rw [hFk];rfl)
       repeat' first|refine sY ⟨?_⟩|(refine sq ?_ ?_<;>refine λh=>⟨?_⟩<;>(first|contradiction|(exfalso;omega)|skip))|fail
       exact ⟨[0,1],D.length - (t+1),rfl,by omega,t+1,_,by omega,rfl,hF',Eq.trans rfl (congrArg (λz=>(⟨[(2,.bptr 0 0),(6,.own 1 0 l.length),(9,.int .i64 (i:Nat)),(67,.ro 1 (aAh D)),(68,.int .i64 ((aAh D).length:Nat)),(69,.int .i64 ((t+1:Nat):Int))],[.box 31 [.ro 8 (aAv l),.int .i64 (q:Nat)],.row false 4 1 z]⟩:St)) e)⟩
   rw [List.take_of_length_le (by omega)] at hF
   have hF':∀j,j<l.length->(F j=true↔(if i<=j then NP j else PP i j)):=λj hj=>by
    rw [hF j hj,hps j,hDu j]
   repeat' first|refine sY ⟨?_⟩|(refine sq ?_ ?_<;>refine λh=>⟨?_⟩<;>(first|contradiction|(exfalso;omega)|skip))|fail
   exact ⟨[0,1],i,rfl,by omega,_,F,rfl,by omega,hF',rfl⟩
 · rw [hFb] at g2
   have e:(fB l.length F).set (0+i) [.bool true]=fB l.length (cF1 F i true):=by rw [Nat.zero_add,cE8]
   have hF0:∀j,j<l.length->(cF1 F i true j=true↔(if i<=j then NP j else PP (i+1) j\/(NP i/\(j:Int)∈D.take 0))):=λj hj=>by
    by_cases hji:j=i
    · subst hji
      rw [cF0,if_pos (Nat.le_refl _)]
      rw [hFb] at hFi;rw [hni,<-hFi];simp
    · rw [cGu _ _ hji,hF j hj]
      by_cases hlt:i<=j
      · rw [if_pos hlt,if_pos (by omega)]
      · rw [if_neg hlt,if_neg (by omega)];simp
   repeat' first|refine sY ⟨?_⟩|(refine sq ?_ ?_<;>refine λh=>⟨?_⟩<;>(first|contradiction|(exfalso;omega)|skip))|fail
   all_goals (refine ⟨[2,6,9,67,68,69],[0,1],λm st=>∃(t:Nat) (F:Nat->Bool),t<=D.length/\m=D.length - t/\(∀ j,j<l.length->(F j=true↔(if i<=j then NP j else PP (i+1) j\/(NP i/\(j:Int)∈D.take t))))/\
    st=⟨[(2,.bptr 0 0),(6,.own 1 0 l.length),(9,.int .i64 (i:Nat)),(67,.ro 1 (aAh D)),(68,.int .i64 ((aAh D).length:Nat)),(69,.int .i64 (t:Nat))],[.box 31 [.ro 8 (aAv l),.int .i64 (q:Nat)],.row false 4 1 (fB l.length F)]⟩,rfl,
    ⟨D.length,0,cF1 F i true,by omega,rfl,hF0,Eq.trans rfl (congrArg (λz=>(⟨[(2,.bptr 0 0),(6,.own 1 0 l.length),(9,.int .i64 (i:Nat)),(67,.ro 1 (aAh D)),(68,.int .i64 ((aAh D).length:Nat)),(69,.int .i64 ((0:Nat):Int))],[.box 31 [.ro 8 (aAv l),.int .i64 (q:Nat)],.row false 4 1 z]⟩:St)) e)⟩,?_⟩)
   clear hF0 e g2 hFb hFi hF F
   rintro m2 _ ⟨t,F,ht,hm2,hF,rfl⟩
   rcases Nat.lt_or_ge t D.length with htl|hge
   · obtain ⟨k,hk1,hk2⟩:=hDn _ (List.getElem_mem htl)
     have g1:(aAh D)[t]? =some [.int .i64 (k:Nat)]:=by rw [aE6 htl,hk1]
     have g3:(fB l.length F)[0+k]? =some [.bool (F k)]:=by rw [Nat.zero_add];exact cFg (by omega)
     have g4:(fB l.length F)[0+i]? =some [.bool (F i)]:=by rw [Nat.zero_add];exact cFg hil
     cases hFk:F k
     · rw [hFk] at g3
       have e:(fB l.length F).set (0+k) [.bool (F i)]=fB l.length (cF1 F k (F i)):=by rw [Nat.zero_add,cE8]
       have hF':=hloop D F t k (F i) hF hk2 htl hk1 (by rw [hFk];rfl)
       repeat' first|refine sY ⟨?_⟩|(refine sq ?_ ?_<;>refine λh=>⟨?_⟩<;>(first|contradiction|(exfalso;omega)|skip))|fail
       exact ⟨[0,1],D.length - (t+1),rfl,by omega,t+1,_,by omega,rfl,hF',Eq.trans rfl (congrArg (λz=>(⟨[(2,.bptr 0 0),(6,.own 1 0 l.length),(9,.int .i64 (i:Nat)),(67,.ro 1 (aAh D)),(68,.int .i64 ((aAh D).length:Nat)),(69,.int .i64 ((t+1:Nat):Int))],[.box 31 [.ro 8 (aAv l),.int .i64 (q:Nat)],.row false 4 1 z]⟩:St)) e)⟩
     · rw [hFk] at g3
       have e:(fB l.length F).set (0+k) [.bool true]=fB l.length (cF1 F k true):=by rw [Nat.zero_add,cE8]
       have hF':=hloop D F t k true hF hk2 htl hk1 (by rw [hFk];rfl)
       repeat' first|refine sY ⟨?_⟩|(refine sq ?_ ?_<;>refine λh=>⟨?_⟩<;>(first|contradiction|(exfalso;omega)|skip))|fail
       exact ⟨[0,1],D.length - (t+1),rfl,by omega,t+1,_,by omega,rfl,hF',Eq.trans rfl (congrArg (λz=>(⟨[(2,.bptr 0 0),(6,.own 1 0 l.length),(9,.int .i64 (i:Nat)),(67,.ro 1 (aAh D)),(68,.int .i64 ((aAh D).length:Nat)),(69,.int .i64 ((t+1:Nat):Int))],[.box 31 [.ro 8 (aAv l),.int .i64 (q:Nat)],.row false 4 1 z]⟩:St)) e)⟩
   rw [List.take_of_length_le (by omega)] at hF
   have hF':∀j,j<l.length->(F j=true↔(if i<=j then NP j else PP i j)):=λj hj=>by
    rw [hF j hj,hps j,hDu j]
   repeat' first|refine sY ⟨?_⟩|(refine sq ?_ ?_<;>refine λh=>⟨?_⟩<;>(first|contradiction|(exfalso;omega)|skip))|fail
   exact ⟨[0,1],i,rfl,by omega,_,F,rfl,by omega,hF',rfl⟩
def cHd:Tab:=[(31,i31),(22,i22),(3,i3),(34,i34),(29,i29),(25,i25),(69,i69),(4,i4)]
theorem cGb:TOK Tryz.prog cHd:=⟨K31,⟨K22,⟨K3,⟨K34,⟨K29,⟨K25,⟨K69,⟨K4,trivial⟩⟩⟩⟩⟩⟩⟩⟩
def atZ (pl:List Int) (a:Int):Int:=pl.getD a.toNat 0
theorem cEs {pl:List Int}{k:Nat}(h:k<pl.length):atZ pl k=pl[k]:=by simp [atZ,h]
def reN (pl:List Int) (x:Nd):Nd:=match aBh x.op with|some 1=>{ x with a:=atZ pl x.a}|some 2=>{ x with a:=atZ pl x.a,b:=atZ pl x.b}|_=>x
theorem dP0 {x:Nd}(h:aBh x.op=some 0):cEp x=[]:=by rw [cEp,h];rfl
theorem dP1 {x:Nd}(h:aBh x.op=some 1):cEp x=[x.a]:=by rw [cEp,h];rfl
theorem dP2 {x:Nd}(h:aBh x.op=some 2):cEp x=[x.a,x.b]:=by rw [cEp,h];rfl
theorem re0 {x:Nd}{pl:List Int}(h:aBh x.op=some 0):reN pl x=x:=by rw [reN,h];rfl
theorem re1 {x:Nd}{pl:List Int}(h:aBh x.op=some 1):reN pl x={ x with a:=atZ pl x.a}:=by rw [reN,h];rfl
theorem re2 {x:Nd}{pl:List Int}(h:aBh x.op=some 2):reN pl x={ x with a:=atZ pl x.a,b:=atZ pl x.b}:=by rw [reN,h];rfl
def cEm (l:List Nd) (N:Nat->Bool):Nat->List Int×List Nd
 |0=>([],[])
 |i+1=>match l[i]? with
  |none=>cEm l N i
  |some x=>if N i=true then ((cEm l N i).1++[((cEm l N i).2.length:Int)],(cEm l N i).2++[reN (cEm l N i).1 x]) else ((cEm l N i).1++[-1],(cEm l N i).2)
theorem cEn {l:List Nd}{N:Nat->Bool}{i:Nat}{pl:List Int}{out:List Nd}{x:Nd}(h:cEm l N i=(pl,out)) (hx:l[i]? =some x) (hN:N i=true):cEm l N (i+1)=(pl++[(out.length:Int)],out++[reN pl x]):=by
 simp only [cEm,hx,h,hN,if_true]
theorem cEw {l:List Nd}{N:Nat->Bool}{i:Nat}{pl:List Int}{out:List Nd}{x:Nd}(h:cEm l N i=(pl,out)) (hx:l[i]? =some x) (hN:N i=false):cEm l N (i+1)=(pl++[-1],out):=by
 simp [cEm,hx,h,hN]
theorem cEt {l:List Nd}{N:Nat->Bool}:∀{i:Nat},i<=l.length->(cEm l N i).1.length=i/\(cEm l N i).2.length<=i
 |0,_=>⟨rfl,Nat.le_refl _⟩
 |i+1,h=>by
  have ih:=cEt (l:=l) (N:=N) (i:=i) (by omega)
  have hx:l[i]? =some l[i]:=List.getElem?_eq_getElem (by omega)
  cases hN:N i with
  |true=>rw [cEn (Prod.eta _).symm hx hN];simp;omega
  |false=>rw [cEw (Prod.eta _).symm hx hN];simp;omega
def cEz (g:Gr) (N:Nat->Bool):Gr×List Int:=(⟨(cEm g.nodes N g.nodes.length).2,atZ (cEm g.nodes N g.nodes.length).1 g.loss⟩,(cEm g.nodes N g.nodes.length).1)
theorem cEr (pl:List Int) (v:Int):aAh (pl++[v])=(aAh pl).take (aAh pl).length++[[.int .i64 v]]:=by rw [List.take_length];simp [aAh]
theorem cFy (l:List Nd) (x:Nd){c:List AV}(h:c=x.cells):aAv (l++[x])=(aAv l).take (aAv l).length++[c]:=by rw [List.take_length,h];simp [aAv]
set_option maxHeartbeats 8000000 in
theorem cGg (g:Gr) (keep:List Int) (hs:∀x∈g.nodes,x.Sm) (hl:g.nodes.length<=1000) (hk:keep.length<=1000):
 aAc Tryz.prog GL 32 [.agg g.cells,.ro 1 (aAh keep)]
  (λy=>y=if cEu g keep=true then .tup [.agg (cEz g (NB g keep)).1.cells,.ro 1 (aAh (cEz g (NB g keep)).2),.int .i64 0] else .tup [.agg [.ro 8 [],.int .i64 0],.ro 1 [],.int .i64 1]):=by
 have hnd:=cG7 g keep hs hl hk
 refine aAc.taken ?_
 cases hok:cEu g keep
 · rw [hok,if_neg (by simp)] at hnd
   rw [if_neg (by simp)]
   refine aAa cGb HM Tryz.func32 rfl (by decide +kernel) (by decide +kernel) rfl ?_
   repeat' first|refine sY ⟨?_⟩|(refine sq ?_ ?_<;>refine λh=>⟨?_⟩<;>(first|contradiction|(exfalso;omega)|skip))|fail
   all_goals (conv=>whnf)
   exact ⟨_,cHx (aFo (show aC7 .nils (.ro 8 []) from ⟨8,rfl⟩) rfl) (show aC7 .nils (.ro 1 []) from ⟨1,rfl⟩) rfl,rfl⟩
 rw [hok,if_pos rfl] at hnd
 rw [if_pos rfl]
 have hg:aC1 g=true:=by simp only [cEu,Bool.and_eq_true] at hok;exact hok.1
 obtain ⟨h1,h2,q,hq1,hq⟩:=aMd hg
 have hpt:=λ{i:Nat} {x:Nd}=>@cE1 g hg i x
 have hfit:=λ{i:Nat} {x:Nd}=>@cGn g hg i x
 have hget:∀i (h:i<g.nodes.length),g.nodes[i]? =some g.nodes[i]:=λi h=>List.getElem?_eq_getElem h
 generalize NB g keep=N at hnd ⊢
 clear hok hg
 obtain ⟨l,p⟩:=g
 dsimp only at hs hl hnd h1 h2 hq1 hq hpt hfit hget
 subst hq1
 show aAc _ _ _ [.agg [.ro 8 (aAv l),.int .i64 (q:Nat)],_] _
 have hlr:=rowN_length l
 have hfin:∀pl out,cEm l N l.length=(pl,out)->cEz ⟨l,(q:Int)⟩ N=(⟨out,atZ pl q⟩,pl):=λpl out h=>by simp only [cEz,h]
 generalize cEz ⟨l,(q:Int)⟩ N=G at hfin ⊢
 refine aAa cGb HM Tryz.func32 rfl (by decide +kernel) (by decide +kernel) rfl ?_
 repeat' first|refine sY ⟨?_⟩|(refine sq ?_ ?_<;>refine λh=>⟨?_⟩<;>(first|contradiction|(exfalso;omega)|skip))|fail
 refine ⟨[2,4,7,9,10,25,26,27],[0,1,2],λm st=>∃(i:Nat) (pl:List Int) (out:List Nd),i<=l.length/\m=l.length - i/\cEm l N i=(pl,out)/\
  (i=0/\st=⟨[(2,.bptr 0 0),(4,.bptr 1 0),(7,.ro 1 (fB l.length N)),(9,.bptr 2 0),(10,.nils),(25,.ro 8 (aAv l)),(26,.int .i64 ((aAv l).length:Nat)),(27,.int .i64 (i:Nat))],[.box 31 [.ro 8 (aAv l),.int .i64 (q:Nat)],.box 31 [.nils,.int .i64 0],.box 31 [.nils,.int .i64 0]]⟩\/(0<i/\out=[]/\st=⟨[(2,.bptr 0 0),(4,.bptr 1 0),(7,.ro 1 (fB l.length N)),(9,.bptr 2 0),(10,.own 3 0 (aAh pl).length),(25,.ro 8 (aAv l)),(26,.int .i64 ((aAv l).length:Nat)),(27,.int .i64 (i:Nat))],[.box 31 [.ro 8 (aAv l),.int .i64 (q:Nat)],.box 31 [.nils,.int .i64 0],.box 31 [.nils,.int .i64 0],.row false 3 1 (aAh pl)]⟩)\/(0<i/\st=⟨[(2,.bptr 0 0),(4,.bptr 1 0),(7,.ro 1 (fB l.length N)),(9,.bptr 2 0),(10,.own 3 0 (aAh pl).length),(25,.ro 8 (aAv l)),(26,.int .i64 ((aAv l).length:Nat)),(27,.int .i64 (i:Nat))],[.box 31 [.ro 8 (aAv l),.int .i64 (q:Nat)],.box 31 [.nils,.int .i64 0],.box 31 [.own 4 0 (aAv out).length,.int .i64 0],.row false 3 1 (aAh pl),.row false 25 8 (aAv out)]⟩)),rfl,⟨l.length,0,[],[],by omega,rfl,rfl,.inl ⟨rfl,rfl⟩⟩,?_⟩
 rintro m _ ⟨i,pl,out,hi,hm,hpr,hst⟩
 have hlen:=cEt (l:=l) (N:=N) hi
 rw [hpr] at hlen
 dsimp only at hlen
 have hpl:=rowZ_length pl
 have hol:=rowN_length out
 rcases Nat.lt_or_ge i l.length with hil|hge
 · obtain ⟨x,hx⟩:∃x,x=l[i]:=⟨_,rfl⟩
   have hgx:l[i]? =some x:=by rw [hx];exact hget i hil
   have g:(aAv l)[i]? =some x.cells:=by rw [hx];exact aB1 hil
   have g1:(fB l.length N)[i]? =some [.bool (N i)]:=cFg hil
   clear hx
   cases hN:N i
   · have hnx:=cEw hpr hgx hN
     rw [hN] at g1
     obtain ⟨op,a,b,name,shape,k,n,data⟩:=x
     rcases hst with ⟨rfl,rfl⟩|⟨h0,rfl,rfl⟩|⟨h0,rfl⟩
     · obtain ⟨rfl,rfl⟩:pl=[]/\out=[]:=by cases hpr;exact ⟨rfl,rfl⟩
       repeat' first|refine sY ⟨?_⟩|(refine sq ?_ ?_<;>refine λh=>⟨?_⟩<;>(first|contradiction|(exfalso;omega)|skip))|fail
       conv=>whnf
       refine ⟨Nat.le_of_ble_eq_true rfl,λh=>Nat.succ_ne_zero _ (congrArg List.length h),?_⟩
       repeat' first|refine sY ⟨?_⟩|(refine sq ?_ ?_<;>refine λh=>⟨?_⟩<;>(first|contradiction|(exfalso;omega)|skip))|fail
       exact ⟨[0,1,2,5],l.length - (0+1),rfl,by omega,0+1,_,_,by omega,rfl,hnx,.inr (.inl ⟨by omega,rfl,rfl⟩)⟩
     · repeat' first|refine sY ⟨?_⟩|(refine sq ?_ ?_<;>refine λh=>⟨?_⟩<;>(first|contradiction|(exfalso;omega)|skip))|fail
       refine ⟨Nat.le_refl _,(show ((aAh pl).length+1)*8<=140737488355328 by omega),_,cEr pl _,?_⟩
       repeat' first|refine sY ⟨?_⟩|(refine sq ?_ ?_<;>refine λh=>⟨?_⟩<;>(first|contradiction|(exfalso;omega)|skip))|fail
       exact ⟨[0,1,2,6],l.length - (i+1),rfl,by omega,i+1,_,_,by omega,rfl,hnx,.inr (.inl ⟨by omega,rfl,rfl⟩)⟩
     · repeat' first|refine sY ⟨?_⟩|(refine sq ?_ ?_<;>refine λh=>⟨?_⟩<;>(first|contradiction|(exfalso;omega)|skip))|fail
       refine ⟨Nat.le_refl _,(show ((aAh pl).length+1)*8<=140737488355328 by omega),_,cEr pl _,?_⟩
       repeat' first|refine sY ⟨?_⟩|(refine sq ?_ ?_<;>refine λh=>⟨?_⟩<;>(first|contradiction|(exfalso;omega)|skip))|fail
       exact ⟨[0,1,2,7,4],l.length - (i+1),rfl,by omega,i+1,_,_,by omega,rfl,hnx,.inr (.inr ⟨by omega,rfl⟩)⟩
   · have hnx:=cEn hpr hgx hN
     rw [hN] at g1
     rcases hst with ⟨rfl,rfl⟩|⟨h0,rfl,rfl⟩|⟨h0,rfl⟩
     · obtain ⟨rfl,rfl⟩:pl=[]/\out=[]:=by cases hpr;exact ⟨rfl,rfl⟩
       obtain ⟨m0,hop,F⟩:=hfit hgx
       have hm2:=aNi hop
       have hDn:=hpt hgx
       have hdp:=cFb GL x
       obtain ⟨op,a,b,name,shape,k,n,data⟩:=x
       have h3:m0=0\/m0=1\/m0=2:=by omega
       rcases h3 with rfl|rfl|rfl
       · rw [dP0 hop] at hdp
         rw [re0 hop] at hnx
         repeat' first|refine sY ⟨?_⟩|(refine sq ?_ ?_<;>refine λh=>⟨?_⟩<;>(first|contradiction|(exfalso;omega)|skip))|fail
         conv=>whnf
         refine ⟨Nat.le_of_ble_eq_true rfl,λh=>Nat.succ_ne_zero _ (congrArg List.length h),?_⟩
         repeat' first|refine sY ⟨?_⟩|(refine sq ?_ ?_<;>refine λh=>⟨?_⟩<;>(first|contradiction|(exfalso;omega)|skip))|fail
         conv=>whnf
         refine ⟨Nat.le_of_ble_eq_true rfl,λh=>Nat.succ_ne_zero _ (congrArg List.length h),?_⟩
         repeat' first|refine sY ⟨?_⟩|(refine sq ?_ ?_<;>refine λh=>⟨?_⟩<;>(first|contradiction|(exfalso;omega)|skip))|fail
         exact ⟨[0,1,2,5,7],l.length - (0+1),rfl,by omega,0+1,_,[⟨op,a,b,name,shape,k,n,data⟩],by omega,rfl,hnx,.inr (.inr ⟨by omega,rfl⟩)⟩
       · obtain ⟨u,_,hu⟩:=hDn a (by rw [dP1 hop];simp)
         omega
       · obtain ⟨u,_,hu⟩:=hDn a (by rw [dP2 hop];simp)
         omega
     · obtain ⟨m0,hop,F⟩:=hfit hgx
       have hm2:=aNi hop
       have h3:m0=0\/m0=1\/m0=2:=by omega
       have hDn:=hpt hgx
       have hdp:=cFb GL x
       obtain ⟨op,a,b,name,shape,k,n,data⟩:=x
       rcases h3 with rfl|rfl|rfl
       · rw [dP0 hop] at hdp
         rw [re0 hop] at hnx
         repeat' first|refine sY ⟨?_⟩|(refine sq ?_ ?_<;>refine λh=>⟨?_⟩<;>(first|contradiction|(exfalso;omega)|skip))|fail
         refine ⟨Nat.le_refl _,(show ((aAh pl).length+1)*8<=140737488355328 by omega),_,cEr pl _,?_⟩
         repeat' first|refine sY ⟨?_⟩|(refine sq ?_ ?_<;>refine λh=>⟨?_⟩<;>(first|contradiction|(exfalso;omega)|skip))|fail
         conv=>whnf
         refine ⟨Nat.le_of_ble_eq_true rfl,λh=>Nat.succ_ne_zero _ (congrArg List.length h),?_⟩
         repeat' first|refine sY ⟨?_⟩|(refine sq ?_ ?_<;>refine λh=>⟨?_⟩<;>(first|contradiction|(exfalso;omega)|skip))|fail
         exact ⟨[0,1,2,6,8],l.length - (i+1),rfl,by omega,i+1,_,[⟨op,a,b,name,shape,k,n,data⟩],by omega,rfl,hnx,.inr (.inr ⟨by omega,rfl⟩)⟩
       · rw [dP1 hop] at hdp hDn
         rw [re1 hop] at hnx
         dsimp only at hdp hnx hDn
         obtain ⟨u,rfl,hu⟩:∃u:Nat,a=u/\u<i:=hDn a (by simp)
         have gu:(aAh pl)[0+u]? =some [.int .i64 (atZ pl u)]:=by rw [Nat.zero_add,aE6 (by omega),cEs (by omega)]
         repeat' first|refine sY ⟨?_⟩|(refine sq ?_ ?_<;>refine λh=>⟨?_⟩<;>(first|contradiction|(exfalso;omega)|skip))|fail
         refine ⟨Nat.le_refl _,(show ((aAh pl).length+1)*8<=140737488355328 by omega),_,cEr pl _,?_⟩
         repeat' first|refine sY ⟨?_⟩|(refine sq ?_ ?_<;>refine λh=>⟨?_⟩<;>(first|contradiction|(exfalso;omega)|skip))|fail
         conv=>whnf
         refine ⟨Nat.le_of_ble_eq_true rfl,λh=>Nat.succ_ne_zero _ (congrArg List.length h),?_⟩
         repeat' first|refine sY ⟨?_⟩|(refine sq ?_ ?_<;>refine λh=>⟨?_⟩<;>(first|contradiction|(exfalso;omega)|skip))|fail
         exact ⟨[0,1,2,6,8],l.length - (i+1),rfl,by omega,i+1,_,[⟨op,atZ pl u,b,name,shape,k,n,data⟩],by omega,rfl,hnx,.inr (.inr ⟨by omega,rfl⟩)⟩
       · rw [dP2 hop] at hdp hDn
         rw [re2 hop] at hnx
         dsimp only at hdp hnx hDn
         obtain ⟨u,rfl,hu⟩:∃u:Nat,a=u/\u<i:=hDn a (by simp)
         obtain ⟨v,rfl,hv⟩:∃u:Nat,b=u/\u<i:=hDn b (by simp)
         have gu:(aAh pl)[0+u]? =some [.int .i64 (atZ pl u)]:=by rw [Nat.zero_add,aE6 (by omega),cEs (by omega)]
         have gv:(aAh pl)[0+v]? =some [.int .i64 (atZ pl v)]:=by rw [Nat.zero_add,aE6 (by omega),cEs (by omega)]
         repeat' first|refine sY ⟨?_⟩|(refine sq ?_ ?_<;>refine λh=>⟨?_⟩<;>(first|contradiction|(exfalso;omega)|skip))|fail
         refine ⟨Nat.le_refl _,(show ((aAh pl).length+1)*8<=140737488355328 by omega),_,cEr pl _,?_⟩
         repeat' first|refine sY ⟨?_⟩|(refine sq ?_ ?_<;>refine λh=>⟨?_⟩<;>(first|contradiction|(exfalso;omega)|skip))|fail
         conv=>whnf
         refine ⟨Nat.le_of_ble_eq_true rfl,λh=>Nat.succ_ne_zero _ (congrArg List.length h),?_⟩
         repeat' first|refine sY ⟨?_⟩|(refine sq ?_ ?_<;>refine λh=>⟨?_⟩<;>(first|contradiction|(exfalso;omega)|skip))|fail
         exact ⟨[0,1,2,6,8],l.length - (i+1),rfl,by omega,i+1,_,[⟨op,atZ pl u,atZ pl v,name,shape,k,n,data⟩],by omega,rfl,hnx,.inr (.inr ⟨by omega,rfl⟩)⟩
     · rw [show out.length=(aAv out).length from (rowN_length out).symm] at hnx
       obtain ⟨m0,hop,F⟩:=hfit hgx
       have hm2:=aNi hop
       have h3:m0=0\/m0=1\/m0=2:=by omega
       have hDn:=hpt hgx
       have hdp:=cFb GL x
       obtain ⟨op,a,b,name,shape,k,n,data⟩:=x
       rcases h3 with rfl|rfl|rfl
       · rw [dP0 hop] at hdp
         rw [re0 hop] at hnx
         repeat' first|refine sY ⟨?_⟩|(refine sq ?_ ?_<;>refine λh=>⟨?_⟩<;>(first|contradiction|(exfalso;omega)|skip))|fail
         refine ⟨Nat.le_refl _,(show ((aAh pl).length+1)*8<=140737488355328 by omega),_,cEr pl _,?_⟩
         repeat' first|refine sY ⟨?_⟩|(refine sq ?_ ?_<;>refine λh=>⟨?_⟩<;>(first|contradiction|(exfalso;omega)|skip))|fail
         refine ⟨Nat.le_refl _,(show ((aAv out).length+1)*120<=140737488355328 by omega),_,cFy out ⟨op,a,b,name,shape,k,n,data⟩ rfl,?_⟩
         repeat' first|refine sY ⟨?_⟩|(refine sq ?_ ?_<;>refine λh=>⟨?_⟩<;>(first|contradiction|(exfalso;omega)|skip))|fail
         exact ⟨[0,1,2,7,9],l.length - (i+1),rfl,by omega,i+1,_,_,by omega,rfl,hnx,.inr (.inr ⟨by omega,rfl⟩)⟩
       · rw [dP1 hop] at hdp hDn
         rw [re1 hop] at hnx
         dsimp only at hdp hnx hDn
         obtain ⟨u,rfl,hu⟩:∃u:Nat,a=u/\u<i:=hDn a (by simp)
         have gu:(aAh pl)[0+u]? =some [.int .i64 (atZ pl u)]:=by rw [Nat.zero_add,aE6 (by omega),cEs (by omega)]
         repeat' first|refine sY ⟨?_⟩|(refine sq ?_ ?_<;>refine λh=>⟨?_⟩<;>(first|contradiction|(exfalso;omega)|skip))|fail
         refine ⟨Nat.le_refl _,(show ((aAh pl).length+1)*8<=140737488355328 by omega),_,cEr pl _,?_⟩
         repeat' first|refine sY ⟨?_⟩|(refine sq ?_ ?_<;>refine λh=>⟨?_⟩<;>(first|contradiction|(exfalso;omega)|skip))|fail
         refine ⟨Nat.le_refl _,(show ((aAv out).length+1)*120<=140737488355328 by omega),_,cFy out ⟨op,atZ pl u,b,name,shape,k,n,data⟩ rfl,?_⟩
         repeat' first|refine sY ⟨?_⟩|(refine sq ?_ ?_<;>refine λh=>⟨?_⟩<;>(first|contradiction|(exfalso;omega)|skip))|fail
         exact ⟨[0,1,2,7,9],l.length - (i+1),rfl,by omega,i+1,_,_,by omega,rfl,hnx,.inr (.inr ⟨by omega,rfl⟩)⟩
       · rw [dP2 hop] at hdp hDn
         rw [re2 hop] at hnx
         dsimp only at hdp hnx hDn
         obtain ⟨u,rfl,hu⟩:∃u:Nat,a=u/\u<i:=hDn a (by simp)
         obtain ⟨v,rfl,hv⟩:∃u:Nat,b=u/\u<i:=hDn b (by simp)
         have gu:(aAh pl)[0+u]? =some [.int .i64 (atZ pl u)]:=by rw [Nat.zero_add,aE6 (by omega),cEs (by omega)]
         have gv:(aAh pl)[0+v]? =some [.int .i64 (atZ pl v)]:=by rw [Nat.zero_add,aE6 (by omega),cEs (by omega)]
         repeat' first|refine sY ⟨?_⟩|(refine sq ?_ ?_<;>refine λh=>⟨?_⟩<;>(first|contradiction|(exfalso;omega)|skip))|fail
         refine ⟨Nat.le_refl _,(show ((aAh pl).length+1)*8<=140737488355328 by omega),_,cEr pl _,?_⟩
         repeat' first|refine sY ⟨?_⟩|(refine sq ?_ ?_<;>refine λh=>⟨?_⟩<;>(first|contradiction|(exfalso;omega)|skip))|fail
         refine ⟨Nat.le_refl _,(show ((aAv out).length+1)*120<=140737488355328 by omega),_,cFy out ⟨op,atZ pl u,atZ pl v,name,shape,k,n,data⟩ rfl,?_⟩
         repeat' first|refine sY ⟨?_⟩|(refine sq ?_ ?_<;>refine λh=>⟨?_⟩<;>(first|contradiction|(exfalso;omega)|skip))|fail
         exact ⟨[0,1,2,7,9],l.length - (i+1),rfl,by omega,i+1,_,_,by omega,rfl,hnx,.inr (.inr ⟨by omega,rfl⟩)⟩
 · have hi2:i=l.length:=by omega
   subst hi2
   have hG:=hfin pl out hpr
   have gq:(aAh pl)[0+q]? =some [.int .i64 (atZ pl q)]:=by rw [Nat.zero_add,aE6 (by omega),cEs (by omega)]
   rcases hst with ⟨h0,rfl⟩|⟨h0,rfl,rfl⟩|⟨h0,rfl⟩
   · omega
   · repeat' first|refine sY ⟨?_⟩|(refine sq ?_ ?_<;>refine λh=>⟨?_⟩<;>(first|contradiction|(exfalso;omega)|skip))|fail
     all_goals (conv=>whnf)
     exact ⟨_,cHx (aFo (show aC7 .nils (.ro 8 []) from ⟨8,rfl⟩) rfl) rfl rfl,by rw [hG];rfl⟩
   · repeat' first|refine sY ⟨?_⟩|(refine sq ?_ ?_<;>refine λh=>⟨?_⟩<;>(first|contradiction|(exfalso;omega)|skip))|fail
     all_goals (conv=>whnf)
     exact ⟨_,cHx (aFo rfl rfl) rfl rfl,by rw [hG];rfl⟩
def cHq:Tab:=[(25,i25),(29,i29),(31,i31),(22,i22),(3,i3),(34,i34)]
theorem cG4:TOK Tryz.prog cHq:=⟨K25,⟨K29,⟨K31,⟨K22,⟨K3,⟨K34,trivial⟩⟩⟩⟩⟩⟩
def ndA (op name:ByteArray):List AV:=[.str op,.int .i64 0,.int .i64 0,.str name,.nils,.str ⟨#[]⟩,.int .i64 0,.nils]
theorem cG8 (op name:ByteArray):aLg (ndA op name) (Nd.cells ⟨op,0,0,name,[],⟨#[]⟩,0,[]⟩):=
 ⟨_,_,rfl,rfl,_,_,rfl,rfl,_,_,rfl,rfl,_,_,rfl,rfl,_,_,rfl,.inr ⟨1,rfl⟩,_,_,rfl,rfl,_,_,rfl,rfl,_,_,rfl,.inr ⟨1,rfl⟩,rfl⟩
def nd0 (op name:ByteArray):Nd:=⟨op,0,0,name,[],⟨#[]⟩,0,[]⟩
def G0:Gr:=⟨[nd0 aGh ⟨#[119]⟩,nd0 aMk ⟨#[]⟩,nd0 bBe ⟨#[]⟩],2⟩
theorem cH3:cEu G0 []=true:=by decide +kernel
theorem cH8:NB G0 [] 0=true:=cEv.2 (.name (x:=nd0 aGh ⟨#[119]⟩) rfl (by decide))
theorem cIa:NB G0 [] 2=true:=cEv.2 (.loss rfl)
theorem cH9:NB G0 [] 1=false:=by
 rw [Bool.eq_false_iff]
 intro h
 rcases (cGw (x:=nd0 aMk ⟨#[]⟩) rfl).1 (cEv.1 h) with (h|h|⟨k,y,h1,h2,h3,_⟩)|h
 · exact absurd h (by decide)
 · simp at h
 · have hk:k<3:=(List.getElem?_eq_some_iff.1 h2).1
   obtain rfl:k=2:=by omega
   have:y=nd0 bBe ⟨#[]⟩:=by
    have e:G0.nodes[2]? =some (nd0 bBe ⟨#[]⟩):=rfl
    rw [e] at h2;cases h2;rfl
   subst this
   exact absurd h3 (by decide)
 · exact h rfl
theorem cHc:cEz G0 (NB G0 [])=(⟨[nd0 aGh ⟨#[119]⟩,nd0 bBe ⟨#[]⟩],1⟩,[0,-1,1]):=by
 have h1:=cEn (l:=G0.nodes) (N:=NB G0 []) (i:=0) (x:=nd0 aGh ⟨#[119]⟩) rfl rfl cH8
 have h2:=cEw h1 (x:=nd0 aMk ⟨#[]⟩) rfl cH9
 have h3:=cEn h2 (x:=nd0 bBe ⟨#[]⟩) rfl cIa
 have e:G0.nodes.length=3:=rfl
 rw [cEz,e,h3]
 rfl
theorem cHr:aAc Tryz.prog GL 31 [] (λr=>r= .bool true):=by
 have hp:=cGg G0 [] (λx hx=>by
  simp only [G0,List.mem_cons,List.not_mem_nil,or_false] at hx
  rcases hx with rfl|rfl|rfl<;>exact ⟨by decide,by decide,by decide,by decide,λd hd=>by simp [nd0] at hd⟩) (by decide) (by decide)
 rw [cH3,if_pos rfl,cHc] at hp
 have hs:=aDh GL [0,-1,1] [0,-1,1] (by decide) (by decide)
 rw [decide_eq_true rfl] at hs
 have hp:=hp.args (xs:=[.agg [.ro 8 [ndA aGh ⟨#[119]⟩,ndA aMk ⟨#[]⟩,ndA bBe ⟨#[]⟩],.int .i64 2],.ro 1 []])
  ⟨_,_,rfl,⟨_,rfl,_,_,rfl,⟨_,rfl,_,_,rfl,cG8 _ _,_,_,rfl,cG8 _ _,_,_,rfl,cG8 _ _,rfl⟩,_,_,rfl,rfl,rfl⟩,_,_,rfl,⟨_,rfl,rfl⟩,rfl⟩
 refine aAa cG4 HM Tryz.func31 rfl (by decide +kernel) (by decide +kernel) rfl ?_
 repeat' first|refine sY ⟨?_⟩|(refine sq ?_ ?_<;>refine λh=>⟨?_⟩<;>(first|contradiction|(exfalso;omega)|skip))|fail
 conv=>whnf
 rfl
theorem cH1 {pl:List Int}{x:Nd}(h:x.Sm):(reN pl x).Sm:=by
 unfold reN
 split
 · exact ⟨h.name,h.k,h.shape,h.data,h.each⟩
 · exact ⟨h.name,h.k,h.shape,h.data,h.each⟩
 · exact h
theorem cGx {l:List Nd}{N:Nat->Bool}(hs:∀x∈l,x.Sm):∀i,∀x∈(cEm l N i).2,x.Sm
 |0,x,hx=>by simp [cEm] at hx
 |i+1,x,hx=>by
  have ih:=cGx (N:=N) hs i
  unfold cEm at hx
  split at hx
  · exact ih x hx
  · rename_i y hy
    split at hx
    · simp only [List.mem_append,List.mem_singleton] at hx
      rcases hx with hx|rfl
      · exact ih x hx
      · exact cH1 (hs y (List.mem_of_getElem? hy))
    · exact ih x hx
end
end Go.V
namespace Go.V
open Go.N Go.Proofs
set_option maxRecDepth 20000
def cG3 (n:Nat):List Int:=(List.range n).map λ(k:Nat)=>(k:Int)
theorem cFz (n:Nat):(cG3 n).length=n:=by simp [cG3]
theorem cHb (n:Nat):cG3 (n+1)=cG3 n++[(n:Int)]:=by simp [cG3,List.range_succ]
theorem cFa {i k:Nat}(h:k<i):atZ (cG3 i) k=k:=by rw [cEs (by rw [cFz];exact h)];simp [cG3]
theorem cHw {g:Gr}(hg:aC1 g=true){i:Nat}{x:Nd}(hx:g.nodes[i]? =some x):reN (cG3 i) x=x:=by
 obtain ⟨m,hop,F⟩:=cGn hg hx
 have hm:=aNi hop
 have hp:=cE1 hg hx
 have h3:m=0\/m=1\/m=2:=by omega
 rcases h3 with rfl|rfl|rfl
 · exact re0 hop
 · rw [dP1 hop] at hp
   obtain ⟨k,hk,hki⟩:=hp x.a (by simp)
   rw [re1 hop,hk,cFa hki,<-hk]
 · rw [dP2 hop] at hp
   obtain ⟨k,hk,hki⟩:=hp x.a (by simp)
   obtain ⟨k2,hk2,hki2⟩:=hp x.b (by simp)
   rw [re2 hop,hk,cFa hki,<-hk,hk2,cFa hki2,<-hk2]
theorem cGo {g:Gr}(hg:aC1 g=true){N:Nat->Bool}(hN:∀i,i<g.nodes.length->N i=true):∀i,i<=g.nodes.length->cEm g.nodes N i=(cG3 i,g.nodes.take i)
 |0,_=>by simp [cEm,cG3]
 |i+1,h=>by
  have hx:g.nodes[i]? =some g.nodes[i]:=List.getElem?_eq_getElem (by omega)
  rw [cEn (cGo hg hN i (by omega)) hx (hN i (by omega)),cHw hg hx,cHb,List.length_take,List.take_succ_eq_append_getElem (by omega),Nat.min_eq_left (by omega)]
theorem cG2 {g:Gr}(hg:aC1 g=true){N:Nat->Bool}(hN:∀i,i<g.nodes.length->N i=true):cEz g N=(g,cG3 g.nodes.length):=by
 obtain ⟨_,_,q,hq,hql⟩:=aMd hg
 rw [cEz,cGo hg hN _ (Nat.le_refl _),List.take_length]
 dsimp only
 rw [hq,cFa hql,<-hq]
end Go.V
namespace Go.V
open Go.N Go.Proofs
set_option maxRecDepth 20000
def cEo (N:Nat->Bool):Nat->Nat
 |0=>0
 |i+1=>cEo N i+(if N i=true then 1 else 0)
theorem cE2 {l:List Nd}{N:Nat->Bool}:∀i,i<=l.length->(cEm l N i).2.length=cEo N i
 |0,_=>rfl
 |i+1,h=>by
  have ih:=cE2 (l:=l) (N:=N) i (by omega)
  have hx:l[i]? =some l[i]:=List.getElem?_eq_getElem (by omega)
  cases hN:N i with
  |true=>rw [cEn (Prod.eta _).symm hx hN];simp [cEo,hN,ih]
  |false=>rw [cEw (Prod.eta _).symm hx hN];simp [cEo,hN,ih]
theorem cGe {l:List Nd}{N:Nat->Bool}:∀i,i<=l.length->∀j v,(cEm l N i).1[j]? =some v->decide (0<=v)=N j
 |0,_,j,v,h=>by simp [cEm] at h
 |i+1,h,j,v,hj=>by
  have ih:=cGe (l:=l) (N:=N) i (by omega) j v
  have hx:l[i]? =some l[i]:=List.getElem?_eq_getElem (by omega)
  have hl:=(cEt (l:=l) (N:=N) (i:=i) (by omega)).1
  have key:∀w:Int,((cEm l N i).1++[w])[j]? =some v->(decide (0<=w)=N i)->decide (0<=v)=N j:=λw hw hwN=>by
   by_cases hji:j<i
   · rw [List.getElem?_append_left (by omega)] at hw;exact ih hw
   · rw [List.getElem?_append_right (by omega),hl] at hw
     have:j - i=0:=by
      have:=(List.getElem?_eq_some_iff.1 hw).1
      simpa using this
     rw [this] at hw
     have e:j=i:=by omega
     subst e
     simp at hw;subst hw;exact hwN
  cases hN:N i with
  |true=>rw [cEn (Prod.eta _).symm hx hN] at hj;exact key _ hj (by rw [hN];simp)
  |false=>rw [cEw (Prod.eta _).symm hx hN] at hj;exact key _ hj (by rw [hN];simp)
end Go.V
