/-
  Lemmas (part 1) for: Exec: ExecRuns, ExecSteps, ExecLoss hold for all arguments; no condition.
-/
import Derived.Test.YtanlechpmkpbiaaGreatDoorKeep5
set_option linter.all false
namespace Go.V
open Go.N Go.Proofs
section
variable (gl:Gl)
def i69:TI:=⟨.slice 4,1,24,(.slice none 0 0),[1]⟩
theorem K69:TFact Tryz.prog 69 i69:=⟨aA3 Tryz.type69 rfl,by decide +kernel,by decide +kernel⟩
def cNq:TI:=⟨.strc [(0,1,false),(1,1,false)],2,32,(.agg #[(.slice none 0 0),(.int .i64 0)]),[1,0]⟩
theorem cNr:TFact Tryz.prog 105 cNq:=⟨aA3 Tryz.type105 rfl,by decide +kernel,by decide +kernel⟩
def cH6:TI:=⟨.fn,1,8,.nilFunc,[0]⟩
theorem cH7:TFact Tryz.prog 162 cH6:=⟨aA3 Tryz.type162 rfl,by decide +kernel,by decide +kernel⟩
def cGk:Tab:=[(22,i22),(3,i3)]
theorem cF2:TOK Tryz.prog cGk:=⟨K22,⟨K3,trivial⟩⟩
def cFe:Tab:=[(22,i22),(3,i3),(162,cH6)]
theorem cE3:TOK Tryz.prog cFe:=⟨K22,⟨K3,⟨cH7,trivial⟩⟩⟩
theorem cGl (f:FuncId) (cs:List AV) (l:List Int) (p:Int->Bool) (hll:l.length<9000000000) (hc:∀x∈l,aAc Tryz.prog gl f [.int .i64 x,.rp cs] (λy=>y= .bool (p x))):
 aAc Tryz.prog gl 129 [.ro 1 (aAh l),.fn f [.rp cs]] (λx=>∃k:Int,x= .int .i64 k/\(0<=k↔l.any p=true)):=by
 refine aAa cF2 HM Tryz.func129 rfl (by decide +kernel) (by decide +kernel) rfl ?_
 have hl:(aAh l).length=l.length:=rowZ_length l
 repeat' first|refine sX ⟨?_⟩|(refine sp ?_ ?_<;>refine λh=>⟨?_⟩)|fail
 refine ⟨[0,1,7,8],[],λm st=>∃i:Nat,i<=l.length/\m=l.length - i/\(l.take i).any p=false/\
  st=⟨[(0,.ro 1 (aAh l)),(1,.fn f [.rp cs]),(7,.int .i64 ((aAh l).length:Nat)),(8,.int .i64 (i:Nat))],[]⟩,rfl,⟨l.length,0,by omega,rfl,by simp,rfl⟩,?_⟩
 rintro m _ ⟨i,hi,hm,ha,rfl⟩
 rcases Nat.lt_or_ge i l.length with hil|hge
 · have g:=aE6 hil
   have hci:=hc l[i] (List.getElem_mem hil)
   cases hp:p l[i]
   · rw [hp] at hci
     repeat' first|refine sX ⟨?_⟩|(refine sp ?_ ?_<;>refine λh=>⟨?_⟩)|fail
     all_goals try omega
     conv=>whnf
     refine .inl ⟨_,hci,?_⟩
     rintro _ rfl
     repeat' first|refine sX ⟨?_⟩|(refine sp ?_ ?_<;>refine λh=>⟨?_⟩)|fail
     exact ⟨[],l.length - (i+1),rfl,by omega,i+1,by omega,rfl,aVj hil ha hp,rfl⟩
   · rw [hp] at hci
     repeat' first|refine sX ⟨?_⟩|(refine sp ?_ ?_<;>refine λh=>⟨?_⟩)|fail
     all_goals try omega
     conv=>whnf
     refine .inl ⟨_,hci,?_⟩
     rintro _ rfl
     repeat' first|refine sX ⟨?_⟩|(refine sp ?_ ?_<;>refine λh=>⟨?_⟩)|fail
     conv=>whnf
     refine ⟨i,rfl,?_⟩
     rw [bCv hil hp]
     simp
 · repeat' first|refine sX ⟨?_⟩|(refine sp ?_ ?_<;>refine λh=>⟨?_⟩)|fail
   all_goals try omega
   conv=>whnf
   rw [List.take_of_length_le (by omega)] at ha
   exact ⟨-1,rfl,by rw [ha];simp⟩
theorem cFf (f:FuncId) (cs:List AV) (l:List Int) (p:Int->Bool) (hll:l.length<9000000000) (hc:∀x∈l,aAc Tryz.prog gl f [.int .i64 x,.rp cs] (λy=>y= .bool (p x))):
 aAc Tryz.prog gl 122 [.ro 1 (aAh l),.fn f [.rp cs]] (λx=>x= .bool (l.any p)):=by
 refine aAa cE3 HM Tryz.func122 rfl (by decide +kernel) (by decide +kernel) rfl ?_
 repeat' first|refine sX ⟨?_⟩|(refine sp ?_ ?_<;>refine λh=>⟨?_⟩)|fail
 conv=>whnf
 refine .inl ⟨_,cGl gl f cs l p hll hc,?_⟩
 rintro _ ⟨k,rfl,hk⟩
 have e:l.any p=decide (0<=k):=by rw [Bool.eq_iff_iff,decide_eq_true_eq,hk]
 repeat' first|refine sX ⟨?_⟩|(refine sp ?_ ?_<;>refine λh=>⟨?_⟩)|fail
 conv=>whnf
 exact congrArg AV.bool e.symm
def cEp (x:Nd):List Int:=match aBh x.op with|some 0=>[]|some 2=>[x.a,x.b]|_=>[x.a]
theorem cHx {a b c d e f:AV}(h1:aC7 a d) (h2:aC7 b e) (h3:aC7 c f):aC7 (.tup [a,b,c]) (.tup [d,e,f]):=⟨_,rfl,_,_,rfl,h1,_,_,rfl,h2,_,_,rfl,h3,rfl⟩
def cHe:Tab:=[(25,i25),(9,i9),(3,i3),(22,i22)]
theorem cGc:TOK Tryz.prog cHe:=⟨K25,⟨K9,⟨K3,⟨K22,trivial⟩⟩⟩⟩
theorem cFb (x:Nd):aAc Tryz.prog gl 61 [.agg x.cells] (λy=>y= .ro 1 (aAh (cEp x))):=by
 obtain ⟨op,a,b,name,shape,k,n,data⟩:=x
 refine aAc.taken ?_
 rcases aMe op with ⟨o,rfl⟩|hn
 · refine aAa cGc HM Tryz.func61 rfl (by decide +kernel) (by decide +kernel) rfl ?_
   cases o
   all_goals (repeat' first|refine sX ⟨?_⟩|(refine sp ?_ ?_<;>refine λh=>⟨?_⟩)|fail)
   all_goals (conv=>whnf)
   all_goals first|exact ⟨_,(show aC7 .nils (.ro 1 []) from ⟨1,rfl⟩),rfl⟩|exact ⟨_,rfl,rfl⟩
 · have e1:cEp ⟨op,a,b,name,shape,k,n,data⟩=[a]:=by simp only [cEp,hn]
   rw [e1]
   refine aAa cGc HM Tryz.func61 rfl (by decide +kernel) (by decide +kernel) rfl ?_
   repeat' first|refine sX ⟨?_⟩|(refine sp ?_ ?_<;>refine λh=>⟨?_⟩)|fail
   all_goals first|exact absurd hn (by rw [show op=_ from h];decide)|skip
   conv=>whnf
   exact ⟨_,rfl,rfl⟩
def cHy (g:Gr) (keep:List Int) (m j:Nat):Prop:=(j:Int)=g.loss\/(j:Int)∈keep\/∃k x,m<=k/\g.nodes[k]? =some x/\cCj x j=true/\NeedP g keep k
theorem cGw {g:Gr}{keep:List Int}{i:Nat}{x:Nd}(hx:g.nodes[i]? =some x):NeedP g keep i↔cHy g keep (i+1) i\/x.name≠⟨#[]⟩:=by
 constructor
 · intro h
   cases h with
   |loss h=>exact .inl (.inl h)
   |keep h=>exact .inl (.inr (.inl h))
   |name h1 h2=>rw [hx] at h1;cases h1;exact .inr h2
   |use h1 h2 h3 h4=>exact .inl (.inr (.inr ⟨_,_,h1,h2,h3,h4⟩))
 · rintro ((h|h|⟨k,y,h1,h2,h3,h4⟩)|h)
   · exact .loss h
   · exact .keep h
   · exact .use h1 h2 h3 h4
   · exact .name hx h
theorem cHo {g:Gr}{keep:List Int}{i j:Nat}{x:Nd}(hx:g.nodes[i]? =some x):cHy g keep i j↔cHy g keep (i+1) j\/(NeedP g keep i/\cCj x j=true):=by
 constructor
 · rintro (h|h|⟨k,y,h1,h2,h3,h4⟩)
   · exact .inl (.inl h)
   · exact .inl (.inr (.inl h))
   · rcases Nat.eq_or_lt_of_le h1 with h|h
     · subst h;rw [hx] at h2;cases h2;exact .inr ⟨h4,h3⟩
     · exact .inl (.inr (.inr ⟨k,y,h,h2,h3,h4⟩))
 · rintro ((h|h|⟨k,y,h1,h2,h3,h4⟩)|⟨h1,h2⟩)
   · exact .inl h
   · exact .inr (.inl h)
   · exact .inr (.inr ⟨k,y,by omega,h2,h3,h4⟩)
   · exact .inr (.inr ⟨i,x,Nat.le_refl _,hx,h2,h1⟩)
theorem cHu {g:Gr}{keep:List Int}{m j:Nat}(h:g.nodes.length<=m):cHy g keep m j↔(j:Int)=g.loss\/(j:Int)∈keep:=by
 constructor
 · rintro (h1|h1|⟨k,y,h1,h2,h3,h4⟩)
   · exact .inl h1
   · exact .inr h1
   · have:=(List.getElem?_eq_some_iff.1 h2).1;omega
 · rintro (h1|h1)
   · exact .inl h1
   · exact .inr (.inl h1)
open Classical in
noncomputable def NB (g:Gr) (keep:List Int) (j:Nat):Bool:=decide (NeedP g keep j)
theorem cEv {g:Gr}{keep:List Int}{j:Nat}:NB g keep j=true↔NeedP g keep j:=by simp [NB]
theorem cFg {n k:Nat}{F:Nat->Bool}(h:k<n):(fB n F)[k]? =some [.bool (F k)]:=by simp [fB,h]
def cF1 (F:Nat->Bool) (k:Nat) (v:Bool):Nat->Bool:=λj=>if j=k then v else F j
theorem cE8 (n k:Nat) (F:Nat->Bool) (v:Bool):(fB n F).set k [.bool v]=fB n (cF1 F k v):=by
 refine List.ext_getElem? λj=>?_
 rw [List.getElem?_set]
 by_cases hj:j<n
 · by_cases hk:k=j
   · subst hk;simp [fB,hj,cF1]
   · simp [hk,fB,hj,cF1,show ¬j=k from λe=>hk e.symm]
 · have:(fB n (cF1 F k v))[j]? =none:=by simp [fB,hj]
   rw [this]
   by_cases hk:k=j
   · simp [hk,hj]
   · simp [hk,fB,hj]
theorem cHt (n:Nat):List.replicate n [.bool false]=fB n λ_=>false:=by simp [fB,List.map_const']
theorem cHk {n:Nat}{F G:Nat->Bool}(h:∀j,j<n->F j=G j):fB n F=fB n G:=List.map_congr_left λj hj=>by rw [h j (List.mem_range.1 hj)]
theorem cF0 (F:Nat->Bool) (k:Nat) (v:Bool):cF1 F k v k=v:=if_pos rfl
theorem cGu (F:Nat->Bool){k j:Nat}(v:Bool) (h:j≠k):cF1 F k v j=F j:=if_neg h
def cEx (g:Gr) (keep:List Int):Bool:= !(keep.any λx=>decide (x<0) || decide ((g.nodes.length:Int)<=x))
def cEu (g:Gr) (keep:List Int):Bool:=aC1 g && cEx g keep
theorem cE7 {g:Gr}{keep:List Int}(h:cEx g keep=true){x:Int}(hx:x∈keep):∃k:Nat,x=k/\k<g.nodes.length:=by
 simp only [cEx,Bool.not_eq_true',List.any_eq_false] at h
 have:=h x hx
 simp only [Bool.or_eq_true,decide_eq_true_eq] at this
 exact ⟨x.toNat,by omega,by omega⟩
theorem cGn {g:Gr}(h:aC1 g=true){i:Nat}{x:Nd}(hx:g.nodes[i]? =some x):∃m,aBh x.op=some m/\Fit (g.nodes.take i) x m:=by
 have h1:=aOt h hx
 cases hp:aBh x.op with
 |none=>rw [aK9 hp] at h1;cases h1
 |some m=>
  cases hf:aN8 (g.nodes.take i) x m with
  |false=>rw [aEd hp hf] at h1;cases h1
  |true=>exact ⟨m,rfl,(aI7 _ _ _).1 hf⟩
theorem cGi {l:List Nd}{i:Nat}{a:Int}(h:inR a (l.take i)=true):∃k:Nat,a=k/\k<i:=by
 obtain ⟨k,hk,hl⟩:=aBc h
 exact ⟨k,hk,by rw [List.length_take] at hl;omega⟩
theorem cE1 {g:Gr}(h:aC1 g=true){i:Nat}{x:Nd}(hx:g.nodes[i]? =some x):∀p∈cEp x,∃k:Nat,p=k/\k<i:=by
 obtain ⟨m,hp,F⟩:=cGn h hx
 have hm:=aNi hp
 intro p hpm
 rw [cEp,hp] at hpm
 have h3:m=0\/m=1\/m=2:=by omega
 rcases h3 with rfl|rfl|rfl
 · simp at hpm
 · simp at hpm;subst hpm;exact cGi (F.ia (by decide))
 · simp at hpm
   rcases hpm with rfl|rfl
   · exact cGi (F.ia (by decide))
   · exact cGi (F.ib (by decide))
theorem cGs {g:Gr}(h:aC1 g=true){i:Nat}{x:Nd}(hx:g.nodes[i]? =some x) (j:Nat):cCj x j=true↔(j:Int)∈cEp x:=by
 obtain ⟨m,hp,F⟩:=cGn h hx
 have hm:=aNi hp
 have h3:m=0\/m=1\/m=2:=by omega
 rw [cCj,cEp,aIp,hp]
 rcases h3 with rfl|rfl|rfl
 · show (false && decide (x.a=(j:Int)) || false && decide (x.b=(j:Int)))=true↔(j:Int)∈[]
   simp only [Bool.false_and,Bool.or_false,List.not_mem_nil,Bool.false_eq_true]
 · show (true && decide (x.a=(j:Int)) || false && decide (x.b=(j:Int)))=true↔(j:Int)∈[x.a]
   simp only [Bool.true_and,Bool.false_and,Bool.or_false,decide_eq_true_eq,List.mem_singleton]
   exact eq_comm
 · show (true && decide (x.a=(j:Int)) || true && decide (x.b=(j:Int)))=true↔(j:Int)∈[x.a,x.b]
   simp only [Bool.true_and,Bool.or_eq_true,decide_eq_true_eq,List.mem_cons,List.not_mem_nil,or_false]
   exact ⟨λe=>e.imp Eq.symm Eq.symm,λe=>e.imp Eq.symm Eq.symm⟩
def cG5:Tab:=[(31,i31),(4,i4),(22,i22),(3,i3),(162,cH6),(29,i29),(25,i25),(69,i69),(9,i9)]
theorem cFd:TOK Tryz.prog cG5:=⟨K31,⟨K4,⟨K22,⟨K3,⟨cH7,⟨K29,⟨K25,⟨K69,⟨K9,trivial⟩⟩⟩⟩⟩⟩⟩⟩⟩
def cH4:Tab:=[(3,i3),(31,i31),(29,i29),(25,i25)]
theorem cHp:TOK Tryz.prog cH4:=⟨K3,⟨K31,⟨K29,⟨K25,trivial⟩⟩⟩⟩
theorem cH5 (gl:Gl) (l:List Nd) (p x:Int):aAc Tryz.prog gl 123 [.int .i64 x,.rp [.ro 8 (aAv l),.int .i64 p]] (λy=>y= .bool (decide (x<0) || decide ((l.length:Int)<=x))):=by
 rw [<- rowN_length]
 refine aAa cHp HM Tryz.func123 rfl (by decide +kernel) (by decide +kernel) rfl ?_
 repeat' first|refine sY ⟨?_⟩|(refine sq ?_ ?_<;>refine λh=>⟨?_⟩<;>(first|contradiction|(exfalso;omega)|skip))|fail
 all_goals (conv=>whnf)
 · exact congrArg AV.bool (by simp [h])
 · exact congrArg AV.bool (by simp [h])
theorem cG0 (x:Nd):(cEp x).length<=2:=by unfold cEp;split<;>simp
set_option maxHeartbeats 4000000 in
theorem cG7 (g:Gr) (keep:List Int) (hs:∀x∈g.nodes,x.Sm) (hl:g.nodes.length<=1000) (hk:keep.length<=1000):
 aAc Tryz.prog GL 60 [.agg g.cells,.ro 1 (aAh keep)] (λy=>y=if cEu g keep=true then .tup [.ro 1 (fB g.nodes.length (NB g keep)),.int .i64 0] else .tup [.ro 1 [],.int .i64 1]):=by
 have hR:=bE1 g hs hl
 have hpre:=@aMd g
 have hpt:=@cE1 g
 have hus:=@cGs g
 have hcf:=cFf GL 123 [.ro 8 (aAv g.nodes),.int .i64 g.loss] keep (λx=>decide (x<0) || decide ((g.nodes.length:Int)<=x)) (by omega) (λx _=>cH5 GL g.nodes g.loss x)
 have hke:=@cE7 g keep
 have hk2:cEx g keep= !(keep.any λx=>decide (x<0) || decide ((g.nodes.length:Int)<=x)):=rfl
 generalize (keep.any λx=>decide (x<0) || decide ((g.nodes.length:Int)<=x))=bad at hcf hk2
 refine aAc.taken ?_
 cases hok:cEu g keep
 · rw [if_neg (by simp)]
   obtain ⟨l,p⟩:=g
   show aAc _ _ _ [.agg [.ro 8 (aAv l),.int .i64 p],_] _
   refine aAa cFd HM Tryz.func60 rfl (by decide +kernel) (by decide +kernel) rfl ?_
   cases hg:aC1 ⟨l,p⟩
   · rw [hg] at hR
     repeat' first|refine sY ⟨?_⟩|(refine sq ?_ ?_<;>refine λh=>⟨?_⟩<;>(first|contradiction|(exfalso;omega)|skip))|fail
     all_goals (conv=>whnf)
     all_goals exact ⟨_,aAf (show aC7 .nils (.ro 1 []) from ⟨1,rfl⟩) rfl,rfl⟩
   · rw [hg] at hR
     have hb:bad=true:=by
      rw [cEu,hg,hk2] at hok
      cases bad
      · exact absurd hok (by decide)
      · rfl
     rw [hb] at hcf
     repeat' first|refine sY ⟨?_⟩|(refine sq ?_ ?_<;>refine λh=>⟨?_⟩<;>(first|contradiction|(exfalso;omega)|skip))|fail
     all_goals (conv=>whnf)
     all_goals exact ⟨_,aAf (show aC7 .nils (.ro 1 []) from ⟨1,rfl⟩) rfl,rfl⟩
 have hg:aC1 g=true:=by simp only [cEu,Bool.and_eq_true] at hok;exact hok.1
 have hkk:cEx g keep=true:=by simp only [cEu,Bool.and_eq_true] at hok;exact hok.2
 rw [if_pos rfl]
 have hb:bad=false:=by rw [hkk] at hk2;cases bad;rfl;exact absurd hk2 (by decide)
 rw [hb] at hcf
 rw [hg] at hR
 obtain ⟨h1,h2,q,hq1,hq⟩:=hpre hg
 have hpt1:=λ{i:Nat} {x:Nd}=>@hpt hg i x
 have hus1:=λ{i:Nat} {x:Nd}=>@hus hg i x
 have hke1:=@hke hkk
 clear hpt hus hke
 have hni:=@cGw g keep
 have hps:=@cHo g keep
 have hpt2:=@cHu g keep
 have hNB:=@cEv g keep
 have hget:∀i (h:i<g.nodes.length),g.nodes[i]? =some g.nodes[i]:=λi h=>List.getElem?_eq_getElem h
 clear hok hkk hk2 hg hpre
 obtain ⟨l,p⟩:=g
 dsimp only at*
 subst hq1
 generalize NB ⟨l,(q:Int)⟩ keep=N at hNB ⊢
 generalize NeedP ⟨l,(q:Int)⟩ keep=NP at hNB hni hps
 generalize cHy ⟨l,(q:Int)⟩ keep=PP at hni hps hpt2
 show aAc _ _ _ [.agg [.ro 8 (aAv l),.int .i64 (q:Nat)],_] _
 have hlr:=rowN_length l
 have hkl:=rowZ_length keep
 refine aAa cFd HM Tryz.func60 rfl (by decide +kernel) (by decide +kernel) rfl ?_
 repeat' first|refine sY ⟨?_⟩|(refine sq ?_ ?_<;>refine λh=>⟨?_⟩<;>(first|contradiction|(exfalso;omega)|skip))|fail
 refine ⟨by omega,Int.le_refl _,by omega,(show ((aAv l).length:Int)*((1:Nat):Int)<=140737488355328 by omega),l.length,congrArg Nat.cast hlr,?_⟩
 have hz:(List.replicate l.length [AV.bool false])[0+q]? =some [.bool false]:=by simp [hq]
 repeat' first|refine sY ⟨?_⟩|(refine sq ?_ ?_<;>refine λh=>⟨?_⟩<;>(first|contradiction|(exfalso;omega)|skip))|fail
 refine ⟨[2,6,28,29,30],[0,1],λm st=>∃(t:Nat) (F:Nat->Bool),t<=keep.length/\m=keep.length - t/\(∀ j,j<l.length->(F j=true↔(j=q\/(j:Int)∈keep.take t)))/\
  st=⟨[(2,.bptr 0 0),(6,.own 1 0 l.length),(28,.ro 1 (aAh keep)),(29,.int .i64 ((aAh keep).length:Nat)),(30,.int .i64 (t:Nat))],[.box 31 [.ro 8 (aAv l),.int .i64 (q:Nat)],.row false 4 1 (fB l.length F)]⟩,rfl,
  ⟨keep.length,0,cF1 (λ_=>false) q true,by omega,rfl,λj hj=>by unfold cF1;split<;>simp_all,Eq.trans rfl (congrArg (λz=>(⟨[(2,.bptr 0 0),(6,.own 1 0 l.length),(28,.ro 1 (aAh keep)),(29,.int .i64 ((aAh keep).length:Nat)),(30,.int .i64 ((0:Nat):Int))],[.box 31 [.ro 8 (aAv l),.int .i64 (q:Nat)],.row false 4 1 z]⟩:St))
    (show (List.replicate l.length [AV.bool false]).set (0+q) [.bool true]=_ by rw [cHt,Nat.zero_add,cE8]))⟩,?_⟩
 rintro m _ ⟨t,F,ht,hm,hF,rfl⟩
 rcases Nat.lt_or_ge t keep.length with htl|hge
 · obtain ⟨k,hk1,hk2⟩:=hke1 (List.getElem_mem htl)
   have g:(aAh keep)[t]? =some [.int .i64 (k:Nat)]:=by rw [aE6 htl,hk1]
   have g2:(fB l.length F)[0+k]? =some [.bool (F k)]:=by rw [Nat.zero_add];exact cFg hk2
   have e:(fB l.length F).set (0+k) [.bool true]=fB l.length (cF1 F k true):=by rw [Nat.zero_add,cE8]
   have hF':∀j,j<l.length->(cF1 F k true j=true↔(j=q\/(j:Int)∈keep.take (t+1))):=λj hj=>by
    rw [List.take_succ_eq_append_getElem htl,List.mem_append,List.mem_singleton,hk1,Int.ofNat_inj,<-or_assoc,<-hF j hj]
    unfold cF1
    split<;>simp_all
   repeat' first|refine sY ⟨?_⟩|(refine sq ?_ ?_<;>refine λh=>⟨?_⟩<;>(first|contradiction|(exfalso;omega)|skip))|fail
   exact ⟨[0,1],keep.length - (t+1),rfl,by omega,t+1,_,by omega,rfl,hF',Eq.trans rfl (congrArg (λz=>(⟨[(2,.bptr 0 0),(6,.own 1 0 l.length),(28,.ro 1 (aAh keep)),(29,.int .i64 ((aAh keep).length:Nat)),(30,.int .i64 ((t+1:Nat):Int))],[.box 31 [.ro 8 (aAv l),.int .i64 (q:Nat)],.row false 4 1 z]⟩:St)) e)⟩
 rw [List.take_of_length_le (by omega)] at hF
 repeat' first|refine sY ⟨?_⟩|(refine sq ?_ ?_<;>refine λh=>⟨?_⟩<;>(first|contradiction|(exfalso;omega)|skip))|fail
 refine ⟨[2,6,9],[0,1],λm st=>∃(e:Int) (F:Nat->Bool),e=(m:Int) - 1/\m<=l.length/\(∀ j,j<l.length->(F j=true↔(if m<=j then NP j else PP m j)))/\
  st=⟨[(2,.bptr 0 0),(6,.own 1 0 l.length),(9,.int .i64 e)],[.box 31 [.ro 8 (aAv l),.int .i64 (q:Nat)],.row false 4 1 (fB l.length F)]⟩,rfl,
  ⟨l.length,_,F,by omega,Nat.le_refl _,λj hj=>by rw [if_neg (by omega),hpt2 (Nat.le_refl _),hF j hj,Int.ofNat_inj],rfl⟩,?_⟩
 clear hF hm ht hge F
 rintro m _ ⟨e,F,he,hml,hF,rfl⟩
 rcases m with _|i
 · have e1:e= -1:=by omega
   subst e1
   repeat' first|refine sY ⟨?_⟩|(refine sq ?_ ?_<;>refine λh=>⟨?_⟩<;>(first|contradiction|(exfalso;omega)|skip))|fail
   refine .inl ⟨(fB_length _ _).symm,?_⟩
   repeat' first|refine sY ⟨?_⟩|(refine sq ?_ ?_<;>refine λh=>⟨?_⟩<;>(first|contradiction|(exfalso;omega)|skip))|fail
   all_goals (conv=>whnf)
   exact ⟨_,aAf rfl rfl,congrArg (λz=>AV.tup [.ro 1 z,.int .i64 0]) (cHk λj hj=>by
    rw [Bool.eq_iff_iff,hNB,hF j hj,if_pos (Nat.zero_le _)])⟩
 have e1:e=(i:Int):=by omega
 subst e1
 have hil:i<l.length:=by omega
 obtain ⟨x,hx⟩:∃x,x=l[i]:=⟨_,rfl⟩
 have hgx:l[i]? =some x:=by rw [hx];exact hget i hil
 have g:(aAv l)[i]? =some x.cells:=by rw [hx];exact aB1 hil
 have hdp:=cFb GL x
 have hDn:=hpt1 hgx
 have hDu:=λj=>hus1 hgx j
 have hni:=hni hgx
 have hps:=λj=>@hps i j x hgx
 have hFi:F i=true↔PP (i+1) i:=by rw [hF i hil,if_neg (by omega)]
 have hlD:=rowZ_length (cEp x)
 have hD2:=cG0 x
 have g2:(fB l.length F)[0+i]? =some [.bool (F i)]:=by rw [Nat.zero_add];exact cFg hil
 have hloop:∀(D:List Int) (F0:Nat->Bool) (t:Nat) (k:Nat) (v:Bool),(∀ j,j<l.length->(F0 j=true↔(if i<=j then NP j else PP (i+1) j\/(NP i/\(j:Int)∈D.take t))))->k<i->(htD:t<D.length)->D[t]=(k:Int)->
  v=(F0 k || F0 i)->∀j,j<l.length->(cF1 F0 k v j=true↔(if i<=j then NP j else PP (i+1) j\/(NP i/\(j:Int)∈D.take (t+1)))):=λD F0 t k v h0 hki htD hk hv j hj=>by
  rw [List.take_succ_eq_append_getElem htD,hk]
  have hi2:=h0 i hil
  rw [if_pos (Nat.le_refl _)] at hi2
  have hk2:=h0 k (by omega)
  rw [if_neg (by omega)] at hk2
  by_cases hjk:j=k
  · subst hjk
    rw [cF0,if_neg (by omega),hv,Bool.or_eq_true,hk2,hi2]
    simp only [List.mem_append,List.mem_singleton]
    constructor
    · rintro ((h|⟨h,h'⟩)|h)
      · exact .inl h
      · exact .inr ⟨h,.inl h'⟩
      · exact .inr ⟨h,.inr trivial⟩
    · rintro (h|⟨h,h'⟩)
      · exact .inl (.inl h)
      · exact .inr h
  · rw [cGu _ _ hjk,h0 j hj]
    have:¬(j:Int)=(k:Int):=by omega
    simp only [List.mem_append,List.mem_singleton,this,or_false]
 obtain ⟨op,a,b,name,shape,k,n,data⟩:=x
 generalize cEp ⟨op,a,b,name,shape,k,n,data⟩=D at hdp hDn hDu hlD hD2
 dsimp only at hni
 cases hFb:F i
 · rw [hFb] at g2
   have e:(fB l.length F).set (0+i) [.bool (!decide (name=⟨#[]⟩))]=fB l.length (cF1 F i (!decide (name=⟨#[]⟩))):=by rw [Nat.zero_add,cE8]
   have hF0:∀j,j<l.length->(cF1 F i (!decide (name=⟨#[]⟩)) j=true↔(if i<=j then NP j else PP (i+1) j\/(NP i/\(j:Int)∈D.take 0))):=λj hj=>by
    by_cases hji:j=i
    · subst hji
      rw [cF0,if_pos (Nat.le_refl _)]
      rw [hFb] at hFi;simp only [Bool.not_eq_true',decide_eq_false_iff_not];rw [hni,<-hFi];simp
    · rw [cGu _ _ hji,hF j hj]
      by_cases hlt:i<=j
      · rw [if_pos hlt,if_pos (by omega)]
      · rw [if_neg hlt,if_neg (by omega)];simp
   repeat' first|refine sY ⟨?_⟩|(refine sq ?_ ?_<;>refine λh=>⟨?_⟩<;>(first|contradiction|(exfalso;omega)|skip))|fail
   all_goals (refine ⟨[2,6,9,67,68,69],[0,1],λm st=>∃(t:Nat) (F:Nat->Bool),t<=D.length/\m=D.length - t/\(∀ j,j<l.length->(F j=true↔(if i<=j then NP j else PP (i+1) j\/(NP i/\(j:Int)∈D.take t))))/\
    st=⟨[(2,.bptr 0 0),(6,.own 1 0 l.length),(9,.int .i64 (i:Nat)),(67,.ro 1 (aAh D)),(68,.int .i64 ((aAh D).length:Nat)),(69,.int .i64 (t:Nat))],[.box 31 [.ro 8 (aAv l),.int .i64 (q:Nat)],.row false 4 1 (fB l.length F)]⟩,rfl,
    ⟨D.length,0,cF1 F i (!decide (name=⟨#[]⟩)),by omega,rfl,hF0,Eq.trans rfl (congrArg (λz=>(⟨[(2,.bptr 0 0),(6,.own 1 0 l.length),(9,.int .i64 (i:Nat)),(67,.ro 1 (aAh D)),(68,.int .i64 ((aAh D).length:Nat)),(69,.int .i64 ((0:Nat):Int))],[.box 31 [.ro 8 (aAv l),.int .i64 (q:Nat)],.row false 4 1 z]⟩:St)) e)⟩,?_⟩)
   clear hF0 e g2 hFb hFi hF F
   rintro m2 _ ⟨t,F,ht,hm2,hF,rfl⟩
   rcases Nat.lt_or_ge t D.length with htl|hge
   · obtain ⟨k,hk1,hk2⟩:=hDn _ (List.getElem_mem htl)
     have g1:(aAh D)[t]? =some [.int .i64 (k:Nat)]:=by rw [aE6 htl,hk1]
     have g3:(fB l.length F)[0+k]? =some [.bool (F k)]:=by rw [Nat.zero_add];exact cFg (by omega)
     have g4:(fB l.length F)[0+i]? =some [.bool (F i)]:=by rw [Nat.zero_add];exact cFg hil
     cases hFk:F k
     · rw [hFk] at g3
       have e:(fB l.length F).set (0+k) [.bool (F i)]=fB l.length (cF1 F k (F i)):=by rw [Nat.zero_add,cE8]
       have hF':=hloop D F t k (F i) hF hk2 htl hk1 (by rw [hFk];rfl)
       repeat' first|refine sY ⟨?_⟩|(refine sq ?_ ?_<;>refine λh=>⟨?_⟩<;>(first|contradiction|(exfalso;omega)|skip))|fail
       exact ⟨[0,1],D.length - (t+1),rfl,by omega,t+1,_,by omega,rfl,hF',Eq.trans rfl (congrArg (λz=>(⟨[(2,.bptr 0 0),(6,.own 1 0 l.length),(9,.int .i64 (i:Nat)),(67,.ro 1 (aAh D)),(68,.int .i64 ((aAh D).length:Nat)),(69,.int .i64 ((t+1:Nat):Int))],[.box 31 [.ro 8 (aAv l),.int .i64 (q:Nat)],.row false 4 1 z]⟩:St)) e)⟩
     · rw [hFk] at g3
       have e:(fB l.length F).set (0+k) [.bool true]=fB l.length (cF1 F k true):=by rw [Nat.zero_add,cE8]
       have hF':=hloop D F t k true hF hk2 htl hk1 (by rw [hFk];rfl)
       repeat' first|refine sY ⟨?_⟩|(refine sq ?_ ?_<;>refine λh=>⟨?_⟩<;>(first|contradiction|(exfalso;omega)|skip))|fail
       exact ⟨[0,1],D.length - (t+1),rfl,by omega,t+1,_,by omega,rfl,hF',Eq.trans rfl (congrArg (λz=>(⟨[(2,.bptr 0 0),(6,.own 1 0 l.length),(9,.int .i64 (i:Nat)),(67,.ro 1 (aAh D)),(68,.int .i64 ((aAh D).length:Nat)),(69,.int .i64 ((t+1:Nat):Int))],[.box 31 [.ro 8 (aAv l),.int .i64 (q:Nat)],.row false 4 1 z]⟩:St)) e)⟩
   rw [List.take_of_length_le (by omega)] at hF
   have hF':∀j,j<l.length->(F j=true↔(if i<=j then NP j else PP i j)):=λj hj=>by
    rw [hF j hj,hps j,hDu j]
   repeat' first|refine sY ⟨?_⟩|(refine sq ?_ ?_<;>refine λh=>⟨?_⟩<;>(first|contradiction|(exfalso;omega)|skip))|fail
   exact ⟨[0,1],i,rfl,by omega,_,F,rfl,by omega,hF',rfl⟩
 · rw [hFb] at g2
   have e:(fB l.length F).set (0+i) [.bool true]=fB l.length (cF1 F i true):=by rw [Nat.zero_add,cE8]
   have hF0:∀j,j<l.length->(cF1 F i true j=true↔(if i<=j then NP j else PP (i+1) j\/(NP i/\(j:Int)∈D.take 0))):=λj hj=>by
    by_cases hji:j=i
    · subst hji
      rw [cF0,if_pos (Nat.le_refl _)]
      rw [hFb] at hFi;rw [hni,<-hFi];simp
    · rw [cGu _ _ hji,hF j hj]
      by_cases hlt:i<=j
      · rw [if_pos hlt,if_pos (by omega)]
      · rw [if_neg hlt,if_neg (by omega)];simp
   repeat' first|refine sY ⟨?_⟩|(refine sq ?_ ?_<;>refine λh=>⟨?_⟩<;>(first|contradiction|(exfalso;omega)|skip))|fail
   all_goals (refine ⟨[2,6,9,67,68,69],[0,1],λm st=>∃(t:Nat) (F:Nat->Bool),t<=D.length/\m=D.length - t/\(∀ j,j<l.length->(F j=true↔(if i<=j then NP j else PP (i+1) j\/(NP i/\(j:Int)∈D.take t))))/\
    st=⟨[(2,.bptr 0 0),(6,.own 1 0 l.length),(9,.int .i64 (i:Nat)),(67,.ro 1 (aAh D)),(68,.int .i64 ((aAh D).length:Nat)),(69,.int .i64 (t:Nat))],[.box 31 [.ro 8 (aAv l),.int .i64 (q:Nat)],.row false 4 1 (fB l.length F)]⟩,rfl,
    ⟨D.length,0,cF1 F i true,by omega,rfl,hF0,Eq.trans rfl (congrArg (λz=>(⟨[(2,.bptr 0 0),(6,.own 1 0 l.length),(9,.int .i64 (i:Nat)),(67,.ro 1 (aAh D)),(68,.int .i64 ((aAh D).length:Nat)),(69,.int .i64 ((0:Nat):Int))],[.box 31 [.ro 8 (aAv l),.int .i64 (q:Nat)],.row false 4 1 z]⟩:St)) e)⟩,?_⟩)
   clear hF0 e g2 hFb hFi hF F
   rintro m2 _ ⟨t,F,ht,hm2,hF,rfl⟩
   rcases Nat.lt_or_ge t D.length with htl|hge
   · obtain ⟨k,hk1,hk2⟩:=hDn _ (List.getElem_mem htl)
     have g1:(aAh D)[t]? =some [.int .i64 (k:Nat)]:=by rw [aE6 htl,hk1]
     have g3:(fB l.length F)[0+k]? =some [.bool (F k)]:=by rw [Nat.zero_add];exact cFg (by omega)
     have g4:(fB l.length F)[0+i]? =some [.bool (F i)]:=by rw [Nat.zero_add];exact cFg hil
     cases hFk:F k
     · rw [hFk] at g3
       have e:(fB l.length F).set (0+k) [.bool (F i)]=fB l.length (cF1 F k (F i)):=by rw [Nat.zero_add,cE8]
       have hF':=hloop D F t k (F i) hF hk2 htl hk1 (by rw [hFk];rfl)
       repeat' first|refine sY ⟨?_⟩|(refine sq ?_ ?_<;>refine λh=>⟨?_⟩<;>(first|contradiction|(exfalso;omega)|skip))|fail
       exact ⟨[0,1],D.length - (t+1),rfl,by omega,t+1,_,by omega,rfl,hF',Eq.trans rfl (congrArg (λz=>(⟨[(2,.bptr 0 0),(6,.own 1 0 l.length),(9,.int .i64 (i:Nat)),(67,.ro 1 (aAh D)),(68,.int .i64 ((aAh D).length:Nat)),(69,.int .i64 ((t+1:Nat):Int))],[.box 31 [.ro 8 (aAv l),.int .i64 (q:Nat)],.row false 4 1 z]⟩:St)) e)⟩
     · rw [hFk] at g3
       have e:(fB l.length F).set (0+k) [.bool true]=fB l.length (cF1 F k true):=by rw [Nat.zero_add,cE8]
       have hF':=hloop D F t k true hF hk2 htl hk1 (by rw [hFk];rfl)
       repeat' first|refine sY ⟨?_⟩|(refine sq ?_ ?_<;>refine λh=>⟨?_⟩<;>(first|contradiction|(exfalso;omega)|skip))|fail
       exact ⟨[0,1],D.length - (t+1),rfl,by omega,t+1,_,by omega,rfl,hF',Eq.trans rfl (congrArg (λz=>(⟨[(2,.bptr 0 0),(6,.own 1 0 l.length),(9,.int .i64 (i:Nat)),(67,.ro 1 (aAh D)),(68,.int .i64 ((aAh D).length:Nat)),(69,.int .i64 ((t+1:Nat):Int))],[.box 31 [.ro 8 (aAv l),.int .i64 (q:Nat)],.row false 4 1 z]⟩:St)) e)⟩
   rw [List.take_of_length_le (by omega)] at hF
   have hF':∀j,j<l.length->(F j=true↔(if i<=j then NP j else PP i j)):=λj hj=>by
    rw [hF j hj,hps j,hDu j]
   repeat' first|refine sY ⟨?_⟩|(refine sq ?_ ?_<;>refine λh=>⟨?_⟩<;>(first|contradiction|(exfalso;omega)|skip))|fail
   exact ⟨[0,1],i,rfl,by omega,_,F,rfl,by omega,hF',rfl⟩
def atZ (pl:List Int) (a:Int):Int:=pl.getD a.toNat 0
def reN (pl:List Int) (x:Nd):Nd:=match aBh x.op with|some 1=>{ x with a:=atZ pl x.a}|some 2=>{ x with a:=atZ pl x.a,b:=atZ pl x.b}|_=>x
theorem dP0 {x:Nd}(h:aBh x.op=some 0):cEp x=[]:=by rw [cEp,h];rfl
theorem dP1 {x:Nd}(h:aBh x.op=some 1):cEp x=[x.a]:=by rw [cEp,h];rfl
theorem dP2 {x:Nd}(h:aBh x.op=some 2):cEp x=[x.a,x.b]:=by rw [cEp,h];rfl
theorem re0 {x:Nd}{pl:List Int}(h:aBh x.op=some 0):reN pl x=x:=by rw [reN,h];rfl
theorem re1 {x:Nd}{pl:List Int}(h:aBh x.op=some 1):reN pl x={ x with a:=atZ pl x.a}:=by rw [reN,h];rfl
theorem re2 {x:Nd}{pl:List Int}(h:aBh x.op=some 2):reN pl x={ x with a:=atZ pl x.a,b:=atZ pl x.b}:=by rw [reN,h];rfl
theorem cEr (pl:List Int) (v:Int):aAh (pl++[v])=(aAh pl).take (aAh pl).length++[[.int .i64 v]]:=by rw [List.take_length];simp [aAh]
def cMk:Tab:=[(25,i25),(9,i9),(3,i3)]
theorem cLy:TOK Tryz.prog cMk:=⟨K25,⟨K9,⟨K3,trivial⟩⟩⟩
def cMj:Tab:=[(31,i31),(3,i3),(29,i29),(25,i25),(9,i9),(22,i22),(69,i69),(4,i4)]
theorem cIq:TOK Tryz.prog cMj:=⟨K31,⟨K3,⟨K29,⟨K25,⟨K9,⟨K22,⟨K69,⟨K4,trivial⟩⟩⟩⟩⟩⟩⟩⟩
def cLz:Tab:=[(31,i31),(22,i22),(3,i3),(29,i29),(25,i25),(69,i69),(4,i4)]
theorem cJ0:TOK Tryz.prog cLz:=⟨K31,⟨K22,⟨K3,⟨K29,⟨K25,⟨K69,⟨K4,trivial⟩⟩⟩⟩⟩⟩⟩
theorem cMo (x:Nd) (i:Nat):aAc Tryz.prog gl 131 [.agg x.cells,.int .i64 (i:Nat)] (λr=>r= .bool (cCj x i)):=by
 have hp:=aK4 gl x.op
 obtain ⟨op,a,b,name,shape,k,n,data⟩:=x
 dsimp only at hp
 unfold cCj
 dsimp only
 generalize aIp op=z at hp ⊢
 refine aAa cLy HM Tryz.func131 rfl (by decide +kernel) (by decide +kernel) rfl ?_
 repeat' first|refine sY ⟨?_⟩|(refine sq ?_ ?_<;>refine λh=>⟨?_⟩<;>(first|contradiction|(exfalso;omega)|skip))|fail
 all_goals (conv=>whnf)
 all_goals exact congrArg AV.bool (by simp_all)
set_option maxHeartbeats 4000000 in
theorem cMn (l:List Nd) (q i:Nat) (keep:List Int) (F:Nat->Bool) (T:Bool) (hl:l.length<=1000) (hkl:keep.length<=1000) (hi:i<l.length)
 (h1:i=q->T=true) (h2:l[i].name≠⟨#[]⟩->T=true) (h3:(i:Int)∈keep->T=true) (h4:∀k (h:k<l.length),i<k->cCj l[k] i=true->F k=true->T=true)
 (h5:i≠q->l[i].name=⟨#[]⟩->(i:Int) ∉ keep->(∀ k (h:k<l.length),i<k->F k=true->cCj l[k] i=false)->T=false):
 aAc Tryz.prog gl 65 [.agg [.ro 8 (aAv l),.int .i64 (q:Nat)],.ro 1 (aAh keep),.int .i64 (i:Nat),.ro 1 (fB l.length F)] (λr=>r= .bool T):=by
 have hlr:=rowN_length l
 have hkr:=rowZ_length keep
 have g:=aB1 hi
 obtain ⟨x,hx⟩:∃x,x=l[i]:=⟨_,rfl⟩
 rw [<- hx] at g h2 h5
 clear hx
 obtain ⟨op,a,b,name,shape,k,n,data⟩:=x
 dsimp only at h2 h5
 by_cases hiq:i=q
 · rw [h1 hiq]
   refine aAa cIq HM Tryz.func65 rfl (by decide +kernel) (by decide +kernel) rfl ?_
   repeat' first|refine sY ⟨?_⟩|(refine sq ?_ ?_<;>refine λh=>⟨?_⟩<;>(first|contradiction|(exfalso;omega)|skip))|fail
   all_goals (conv=>whnf)
   all_goals rfl
 by_cases hn:name=⟨#[]⟩
 case neg=>
  rw [h2 hn]
  refine aAa cIq HM Tryz.func65 rfl (by decide +kernel) (by decide +kernel) rfl ?_
  repeat' first|refine sY ⟨?_⟩|(refine sq ?_ ?_<;>refine λh=>⟨?_⟩<;>(first|contradiction|(exfalso;omega)|skip))|fail
  all_goals (conv=>whnf)
  all_goals rfl
 have h5:=h5 hiq hn
 clear h1 h2
 refine aAa cIq HM Tryz.func65 rfl (by decide +kernel) (by decide +kernel) rfl ?_
 repeat' first|refine sY ⟨?_⟩|(refine sq ?_ ?_<;>refine λh=>⟨?_⟩<;>(first|contradiction|(exfalso;omega)|skip))|fail
 refine ⟨[1,2,3,4,9],[0],λm st=>∃t:Nat,t<=keep.length/\m=keep.length - t/\(i:Int) ∉ keep.take t/\
  st=⟨[(1,.ro 1 (aAh keep)),(2,.int .i64 (i:Nat)),(3,.ro 1 (fB l.length F)),(4,.bptr 0 0),(9,.int .i64 (t:Nat))],[.box 31 [.ro 8 (aAv l),.int .i64 (q:Nat)]]⟩,rfl,⟨keep.length,0,by omega,rfl,by simp,rfl⟩,?_⟩
 rintro m _ ⟨t,ht,hm,hk,rfl⟩
 rcases Nat.lt_or_ge t keep.length with htl|hge
 · have g1:=aE6 htl
   by_cases he:keep[t]=(i:Int)
   · rw [h3 (by rw [<- he];exact List.getElem_mem htl)]
     repeat' first|refine sY ⟨?_⟩|(refine sq ?_ ?_<;>refine λh=>⟨?_⟩<;>(first|contradiction|(exfalso;omega)|skip))|fail
     all_goals (conv=>whnf)
     all_goals rfl
   · repeat' first|refine sY ⟨?_⟩|(refine sq ?_ ?_<;>refine λh=>⟨?_⟩<;>(first|contradiction|(exfalso;omega)|skip))|fail
     exact ⟨[0],keep.length - (t+1),rfl,by omega,t+1,by omega,rfl,by
      rw [List.take_succ_eq_append_getElem htl,List.mem_append,List.mem_singleton]
      rintro (h|h)
      · exact hk h
      · exact he h.symm,rfl⟩
 rw [List.take_of_length_le (by omega)] at hk
 have h5:=h5 hk
 repeat' first|refine sY ⟨?_⟩|(refine sq ?_ ?_<;>refine λh=>⟨?_⟩<;>(first|contradiction|(exfalso;omega)|skip))|fail
 refine ⟨[1,2,3,4,10],[0],λm st=>∃j:Nat,i<j/\j<=l.length/\m=l.length - j/\(∀ k (h:k<l.length),i<k->k<j->F k=true->cCj l[k] i=false)/\
  st=⟨[(1,.ro 1 (aAh keep)),(2,.int .i64 (i:Nat)),(3,.ro 1 (fB l.length F)),(4,.bptr 0 0),(10,.int .i64 (j:Nat))],[.box 31 [.ro 8 (aAv l),.int .i64 (q:Nat)]]⟩,rfl,⟨l.length - (i+1),i+1,by omega,by omega,rfl,λk _ h1 h2=>by omega,rfl⟩,?_⟩
 rintro m2 _ ⟨j,hij,hj,hm2,hF,rfl⟩
 rcases Nat.lt_or_ge j l.length with hjl|hge
 · have g1:(fB l.length F)[j]? =some [.bool (F j)]:=cFg hjl
   have g2:=aB1 hjl
   have hu:=cMo gl l[j] i
   have h4:=h4 j hjl hij
   have hstep:(F j=true->cCj l[j] i=false)->∀k (h:k<l.length),i<k->k<j+1->F k=true->cCj l[k] i=false:=λhh k hk h1 h2 h3=>by
    rcases Nat.lt_succ_iff_lt_or_eq.1 h2 with h|h
    · exact hF k hk h1 h h3
    · subst h;exact hh h3
   cases hFj:F j
   · rw [hFj] at g1
     have:=hstep (λe=>by rw [hFj] at e;cases e)
     repeat' first|refine sY ⟨?_⟩|(refine sq ?_ ?_<;>refine λh=>⟨?_⟩<;>(first|contradiction|(exfalso;omega)|skip))|fail
     exact ⟨[0],l.length - (j+1),rfl,by omega,j+1,by omega,by omega,rfl,this,rfl⟩
   · rw [hFj] at g1
     cases hus:cCj l[j] i
     · rw [hus] at hu
       have:=hstep (λ_=>hus)
       repeat' first|refine sY ⟨?_⟩|(refine sq ?_ ?_<;>refine λh=>⟨?_⟩<;>(first|contradiction|(exfalso;omega)|skip))|fail
       exact ⟨[0],l.length - (j+1),rfl,by omega,j+1,by omega,by omega,rfl,this,rfl⟩
     · rw [hus] at hu
       rw [h4 hus hFj]
       repeat' first|refine sY ⟨?_⟩|(refine sq ?_ ?_<;>refine λh=>⟨?_⟩<;>(first|contradiction|(exfalso;omega)|skip))|fail
       all_goals (conv=>whnf)
       all_goals rfl
 · rw [h5 (λk hk h1 h2=>hF k hk h1 (by omega) h2)]
   repeat' first|refine sY ⟨?_⟩|(refine sq ?_ ?_<;>refine λh=>⟨?_⟩<;>(first|contradiction|(exfalso;omega)|skip))|fail
   all_goals (conv=>whnf)
   all_goals rfl
set_option maxHeartbeats 4000000 in
theorem cL0 (g:Gr) (keep:List Int) (hg:aC1 g=true) (hk:keep.length<=1000):
 aAc Tryz.prog gl 37 [.agg g.cells,.ro 1 (aAh keep)] (λy=>y=if cEx g keep=true then .tup [.ro 1 (fB g.nodes.length (NB g keep)),.bool true] else .tup [.ro 1 [],.bool false]):=by
 refine aAc.taken ?_
 obtain ⟨h1,h2,q,hq1,hq⟩:=aMd hg
 have hni:=@cGw g keep
 have hNB:=@cEv g keep
 have hkb:(∃ x∈keep,x<0\/(g.nodes.length:Int)<=x)->cEx g keep=false:=by
  rintro ⟨x,hx,h⟩
  rw [cEx,Bool.not_eq_false']
  exact List.any_eq_true.2 ⟨x,hx,by simpa using h⟩
 have hko:(∀ x∈keep,¬(x<0\/(g.nodes.length:Int)<=x))->cEx g keep=true:=by
  intro h
  rw [cEx,Bool.not_eq_true',List.any_eq_false]
  intro x hx;simpa using h x hx
 generalize cEx g keep=K at hkb hko ⊢
 have hneed:∀(i:Nat) (F:Nat->Bool) (hi:i<g.nodes.length),(∀ j,i<j->j<g.nodes.length->F j=NB g keep j)->aAc Tryz.prog gl 65 [.agg [.ro 8 (aAv g.nodes),.int .i64 (q:Nat)],.ro 1 (aAh keep),.int .i64 (i:Nat),.ro 1 (fB g.nodes.length F)] (λr=>r= .bool (NB g keep i)):=λi F hi hF=>by
  have hgi:g.nodes[i]? =some g.nodes[i]:=List.getElem?_eq_getElem hi
  refine cMn gl g.nodes q i keep F _ (by omega) hk hi (λe=>?_) (λe=>?_) (λe=>?_) (λk h hik hu hFk=>?_) (λe1 e2 e3 e4=>?_)
  · exact hNB.2 (.loss (by rw [hq1,e]))
  · exact hNB.2 (.name hgi e)
  · exact hNB.2 (.keep e)
  · exact hNB.2 (.use hik (List.getElem?_eq_getElem h) hu (hNB.1 (by rw [<- hF k hik h];exact hFk)))
  · rw [Bool.eq_false_iff]
    intro hN
    rcases (hni hgi).1 (hNB.1 hN) with (h|h|⟨k,y,h1,h2,h3,h4⟩)|h
    · rw [hq1] at h;exact e1 (Int.ofNat_inj.1 h)
    · exact e3 h
    · obtain ⟨hk1,hk2⟩:=List.getElem?_eq_some_iff.1 h2
      have:=e4 k hk1 (by omega) (by rw [hF k (by omega) hk1];exact hNB.2 h4)
      rw [hk2,h3] at this;cases this
    · exact h e2
 clear hg hni hNB
 generalize NB g keep=N at hneed ⊢
 have hY1:K=true->(if K=true then AV.tup [.ro 1 (fB g.nodes.length N),.bool true] else .tup [.ro 1 [],.bool false])= .tup [.ro 1 (fB g.nodes.length N),.bool true]:=λh=>if_pos h
 have hY2:K=false->(if K=true then AV.tup [.ro 1 (fB g.nodes.length N),.bool true] else .tup [.ro 1 [],.bool false])= .tup [.ro 1 [],.bool false]:=λh=>if_neg (by simp [h])
 generalize (if K=true then AV.tup [.ro 1 (fB g.nodes.length N),.bool true] else .tup [.ro 1 [],.bool false])=Z at hY1 hY2 ⊢
 obtain ⟨l,p⟩:=g
 dsimp only at*
 subst hq1
 show aAc _ _ _ [.agg [.ro 8 (aAv l),.int .i64 (q:Nat)],_] _
 have hlr:=rowN_length l
 have hkr:=rowZ_length keep
 refine aAa cJ0 HM Tryz.func37 rfl (by decide +kernel) (by decide +kernel) rfl ?_
 repeat' first|refine sY ⟨?_⟩|(refine sq ?_ ?_<;>refine λh=>⟨?_⟩<;>(first|contradiction|(exfalso;omega)|skip))|fail
 refine ⟨[1,2,6],[0],λm st=>∃t:Nat,t<=keep.length/\m=keep.length - t/\(∀ x∈keep.take t,¬(x<0\/(l.length:Int)<=x))/\
  st=⟨[(1,.ro 1 (aAh keep)),(2,.bptr 0 0),(6,.int .i64 (t:Nat))],[.box 31 [.ro 8 (aAv l),.int .i64 (q:Nat)]]⟩,rfl,⟨keep.length,0,by omega,rfl,by simp,rfl⟩,?_⟩
 rintro m _ ⟨t,ht,hm,ha,rfl⟩
 rcases Nat.lt_or_ge t keep.length with htl|hge
 · have g1:=aE6 htl
   by_cases hb:keep[t]<0\/(l.length:Int)<=keep[t]
   · have hZ:=(hY2 (hkb ⟨_,List.getElem_mem htl,hb⟩)).symm
     repeat' first|refine sY ⟨?_⟩|(refine sq ?_ ?_<;>refine λh=>⟨?_⟩<;>(first|contradiction|(exfalso;omega)|skip))|fail
     refine ⟨by decide +kernel,[0,0,3,7,15,31,63,63,255,511,63,1087,3135,8191,16383],by decide +kernel,?_⟩
     repeat' first|refine sY ⟨?_⟩|(refine sq ?_ ?_<;>refine λh=>⟨?_⟩<;>(first|contradiction|(exfalso;omega)|skip))|fail
     all_goals (conv=>whnf)
     all_goals exact ⟨_,aAf (show aC7 .nils (.ro 1 []) from ⟨1,rfl⟩) rfl,hZ⟩
   · have hst:∀x∈keep.take (t+1),¬(x<0\/(l.length:Int)<=x):=λx hx=>by
      rw [List.take_succ_eq_append_getElem htl,List.mem_append,List.mem_singleton] at hx
      rcases hx with h|h
      · exact ha x h
      · subst h;exact hb
     repeat' first|refine sY ⟨?_⟩|(refine sq ?_ ?_<;>refine λh=>⟨?_⟩<;>(first|contradiction|(exfalso;omega)|skip))|fail
     refine ⟨by decide +kernel,[0,0,3,7,15,31,63,63,255,511,63,1087,3135,8191,16383],by decide +kernel,?_⟩
     repeat' first|refine sY ⟨?_⟩|(refine sq ?_ ?_<;>refine λh=>⟨?_⟩<;>(first|contradiction|(exfalso;omega)|skip))|fail
     exact ⟨[0],keep.length - (t+1),rfl,by omega,t+1,by omega,rfl,hst,rfl⟩
 rw [List.take_of_length_le (by omega)] at ha
 have hZ:=(hY1 (hko ha)).symm
 repeat' first|refine sY ⟨?_⟩|(refine sq ?_ ?_<;>refine λh=>⟨?_⟩<;>(first|contradiction|(exfalso;omega)|skip))|fail
 refine ⟨by omega,Int.le_refl _,by omega,(show ((aAv l).length:Int)*((1:Nat):Int)<=140737488355328 by omega),l.length,congrArg Nat.cast hlr,?_⟩
 repeat' first|refine sY ⟨?_⟩|(refine sq ?_ ?_<;>refine λh=>⟨?_⟩<;>(first|contradiction|(exfalso;omega)|skip))|fail
 refine ⟨[1,2,7,8],[0,1],λm st=>∃(e:Int) (F:Nat->Bool),e=(m:Int) - 1/\m<=l.length/\(∀ j,m<=j->j<l.length->F j=N j)/\
  st=⟨[(1,.ro 1 (aAh keep)),(2,.bptr 0 0),(7,.own 1 0 l.length),(8,.int .i64 e)],[.box 31 [.ro 8 (aAv l),.int .i64 (q:Nat)],.row false 4 1 (fB l.length F)]⟩,rfl,
  ⟨l.length,_,λ_=>false,by omega,Nat.le_refl _,λj h1 h2=>by omega,Eq.trans rfl (congrArg (λz=>(⟨[(1,.ro 1 (aAh keep)),(2,.bptr 0 0),(7,.own 1 0 l.length),(8,.int .i64 (((aAv l).length:Nat) - 1))],[.box 31 [.ro 8 (aAv l),.int .i64 (q:Nat)],.row false 4 1 z]⟩:St)) (cHt l.length))⟩,?_⟩
 rintro m _ ⟨e,F,he,hml,hF,rfl⟩
 rcases m with _|i
 · have e1:e= -1:=by omega
   subst e1
   repeat' first|refine sY ⟨?_⟩|(refine sq ?_ ?_<;>refine λh=>⟨?_⟩<;>(first|contradiction|(exfalso;omega)|skip))|fail
   refine .inl ⟨(fB_length _ _).symm,?_⟩
   repeat' first|refine sY ⟨?_⟩|(refine sq ?_ ?_<;>refine λh=>⟨?_⟩<;>(first|contradiction|(exfalso;omega)|skip))|fail
   all_goals (conv=>whnf)
   exact ⟨_,aAf rfl rfl,Eq.trans (congrArg (λz=>AV.tup [.ro 1 z,.bool true]) (cHk λj hj=>hF j (Nat.zero_le _) hj)) hZ⟩
 have e1:e=(i:Int):=by omega
 subst e1
 have hil:i<l.length:=by omega
 have hnd:=hneed i F hil (λj h1 h2=>hF j (by omega) h2)
 have e2:(fB l.length F)=List.take l.length (List.drop 0 (fB l.length F)):=by rw [List.drop_zero,List.take_of_length_le (by simp)]
 rw [e2] at hnd
 have g2:(fB l.length F)[0+i]? =some [.bool (F i)]:=by rw [Nat.zero_add];exact cFg hil
 have e:(fB l.length F).set (0+i) [.bool (N i)]=fB l.length (cF1 F i (N i)):=by rw [Nat.zero_add,cE8]
 repeat' first|refine sY ⟨?_⟩|(refine sq ?_ ?_<;>refine λh=>⟨?_⟩<;>(first|contradiction|(exfalso;omega)|skip))|fail
 exact ⟨[0,1],i,rfl,by omega,_,cF1 F i (N i),rfl,by omega,λj h1 h2=>by
  by_cases hji:j=i
  · subst hji;exact cF0 _ _ _
  · rw [cGu _ _ hji];exact hF j (by omega) h2,Eq.trans rfl (congrArg (λz=>(⟨[(1,.ro 1 (aAh keep)),(2,.bptr 0 0),(7,.own 1 0 l.length),(8,.int .i64 ((i:Int) - 1))],[.box 31 [.ro 8 (aAv l),.int .i64 (q:Nat)],.row false 4 1 z]⟩:St)) e)⟩
end
end Go.V
namespace Go.V
open Go.N Go.Proofs
set_option maxRecDepth 20000
end Go.V
namespace Go.V
open Go.N Go.Proofs
set_option maxRecDepth 20000
end Go.V
