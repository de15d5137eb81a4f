/-
  Lemmas (part 7) for: the statement.
-/
import Derived.Test.YtphnnbfgiomaoaaGreatDoorFive3
import Derived.Test.YtphnnbfgiomaoaaGreatDoorFive5
import Derived.Test.YtphnnbfgiomaoaaGreatDoorFive6
import Derived.OpenShut
import Derived.Lay
import Derived.LaidMore
import Derived.ProofKit
import Derived.SevenTiedAt
import Derived.Stop.Joined
import Derived.Stop.LaidErr
import Derived.ChangeOld
import Derived.Carry
import Derived.DataElems
import Derived.Test.YtphnnbfgiomaoaaGreatDoorTie
import Derived.Test.YtphnnbfgiomaoaaGreatDoorCards
set_option linter.all false
namespace Go.V
open Go.N Go.Proofs
set_option maxRecDepth 20000
variable (gl:Gl)
set_option maxHeartbeats 8000000 in
theorem bDo (l:List Nd) (x:Nd) (hx:x.Sm) (hl:∀y∈l,y.Sm):
 aAc Tryz.prog gl 43 [.ro 8 (aAv l),.agg x.cells] (λy=>y= .tup [.ro 1 (aAh (bD8 l x).1),.bool (bD8 l x).2]):=by
 rcases aMe x.op with ⟨o,ho⟩|hn
 · cases hf:aN8 l x o.many with
   |false=>rw [bS1 (by rw [ho];exact aFw o) hf];exact aSv gl l x o ho hf hx
   |true=>exact aP3 gl l x o ho hf hx hl
 · rw [bOg hn]
   have hp:=aK4 gl x.op
   rw [aIp,hn] at hp
   refine aAc.taken ?_
   refine vgo aAe Tryz.func43 ?_
   repeat' first|refine sV ⟨?_⟩|refine sq (λh=>⟨?_⟩) λh=>⟨?_⟩|fail
   all_goals (conv=>whnf)
   all_goals first|exact ⟨_,aAf rfl rfl,rfl⟩|exact ⟨_,aAf (show aC7 .nils (.ro 1 []) from ⟨1,rfl⟩) rfl,rfl⟩
end Go.V
namespace Go.V
open Go.N Go.Proofs
set_option maxRecDepth 20000
variable (gl:Gl)
def bCp:Tab:=[(24,i24),(22,i22),(34,i34),(3,i3),(27,i27),(32,i32),(9,i9)]
theorem aLk:TOK Tryz.prog bCp:=⟨K24,⟨K22,⟨K34,⟨K3,⟨K27,⟨K32,⟨K9,trivial⟩⟩⟩⟩⟩⟩⟩
def bHw:Tab:=[(34,i34),(9,i9),(3,i3),(27,i27),(4,i4),(32,i32)]
theorem aNq:TOK Tryz.prog bHw:=⟨K34,⟨K9,⟨K3,⟨K27,⟨K4,⟨K32,trivial⟩⟩⟩⟩⟩⟩
def bCl:Tab:=[(24,i24),(3,i3),(22,i22),(34,i34),(4,i4)]
theorem aLj:TOK Tryz.prog bCl:=⟨K24,⟨K3,⟨K22,⟨K34,⟨K4,trivial⟩⟩⟩⟩⟩
def aR6 (s:ByteArray):Bool:=decide (s.size<=30)
def aHz (x:Nd):Bool:=decide (x.shape.length<=10) && decide (x.data.length<=70) && decide (x.k.size<=30) && decide (x.name.size<=30) && x.data.all aR6
def aFh (g:Gr):Bool:=decide (g.nodes.length<=40) && g.nodes.all aHz
theorem bCu {α:Type}{l:List α}{p:α->Bool}{i:Nat}(h:i<l.length) (hp:p l[i]=false):l.all p=false:=List.all_eq_false.2 ⟨_,List.getElem_mem h,by simp [hp]⟩
theorem aOf {α:Type}{l:List α}{p:α->Bool}{i:Nat}(h:i<l.length) (ha:(l.take i).all p=true) (hp:p l[i]=true):(l.take (i+1)).all p=true:=by
 rw [List.take_succ_eq_append_getElem h,List.all_append,ha];simp [hp]
theorem aMn {x:Nd}(h:aHz x=true):x.Sm:=by
 simp only [aHz,Bool.and_eq_true,decide_eq_true_eq,List.all_eq_true] at h
 exact ⟨by omega,by omega,by omega,by omega,λd hd=>by have:=h.2 d hd;simp only [aR6,decide_eq_true_eq] at this;omega⟩
set_option maxHeartbeats 4000000 in
theorem aK5 (g:Gr):aAc Tryz.prog gl 14 [.agg g.cells] (λx=>x= .bool (aFh g)):=by
 obtain ⟨l,loss⟩:=g
 have hl:(aAv l).length=l.length:=rowN_length l
 by_cases h40:l.length<=40
 · have hb:l.all aHz=false->aFh ⟨l,loss⟩=false:=λh=>by simp [aFh,h]
   have ho:l.all aHz=true->aFh ⟨l,loss⟩=true:=λh=>by simp [aFh,h,h40]
   generalize aFh ⟨l,loss⟩=T at hb ho ⊢
   refine vgo aLk Tryz.func14 ?_
   repeat' first|refine sV ⟨?_⟩|refine sq (λh=>⟨?_⟩) λh=>⟨?_⟩|fail
   refine ⟨[12,13,14],[],λm st=>∃i:Nat,i<=l.length/\m=l.length - i/\(l.take i).all aHz=true/\
    st=⟨[(12,.ro 8 (aAv l)),(13,.int .i64 ((aAv l).length:Nat)),(14,.int .i64 (i:Nat))],[]⟩,rfl,⟨l.length,0,by omega,rfl,rfl,rfl⟩,?_⟩
   rintro m _ ⟨i,hi,hm,ha,rfl⟩
   rcases Nat.lt_or_ge i l.length with hil|hge
   · obtain ⟨x,hx⟩:∃x,x=l[i]:=⟨_,rfl⟩
     have g:(aAv l)[i]? =some x.cells:=by rw [hx];exact aB1 hil
     have hbad:aHz x=false->T=false:=λh=>hb (bCu hil (by rw [<- hx];exact h))
     have hstep:aHz x=true->(l.take (i+1)).all aHz=true:=λh=>aOf hil ha (by rw [<- hx];exact h)
     clear hx
     obtain ⟨op,a,b,name,shape,k,n,data⟩:=x
     have hls:(aAh shape).length=shape.length:=rowZ_length shape
     have hld:(aCm data).length=data.length:=rowS_length data
     by_cases hpre:shape.length<=10/\data.length<=70/\k.size<=30/\name.size<=30
     · obtain ⟨h1,h2,h3,h4⟩:=hpre
       have hb2:data.all aR6=false->T=false:=λh=>hbad (by simp [aHz,h])
       have ho2:data.all aR6=true->(l.take (i+1)).all aHz=true:=λh=>hstep (by simp [aHz,h,h1,h2,h3,h4])
       repeat' first|refine sV ⟨?_⟩|refine sq (λh=>⟨?_⟩) λh=>⟨?_⟩|fail
       refine ⟨[12,13,14,41,42,43],[],λm st=>∃j:Nat,j<=data.length/\m=data.length - j/\(data.take j).all aR6=true/\
        st=⟨[(12,.ro 8 (aAv l)),(13,.int .i64 ((aAv l).length:Nat)),(14,.int .i64 (i:Nat)),(41,.ro 1 (aCm data)),(42,.int .i64 ((aCm data).length:Nat)),(43,.int .i64 (j:Nat))],[]⟩,rfl,⟨data.length,0,by omega,rfl,rfl,rfl⟩,?_⟩
       rintro m2 _ ⟨j,hj,hm2,ha2,rfl⟩
       rcases Nat.lt_or_ge j data.length with hjl|hge
       · have g2:=aCd hjl
         by_cases hs:data[j].size<=30
         · repeat' first|refine sV ⟨?_⟩|refine sq (λh=>⟨?_⟩) λh=>⟨?_⟩|fail
           exact ⟨[],data.length - (j+1),rfl,by omega,j+1,by omega,rfl,aOf hjl ha2 (by simp [aR6,hs]),rfl⟩
         · rw [hb2 (bCu hjl (by simp [aR6,hs]))]
           repeat' first|refine sV ⟨?_⟩|refine sq (λh=>⟨?_⟩) λh=>⟨?_⟩|fail
           all_goals (conv=>whnf)
           rfl
       · rw [List.take_of_length_le (by omega)] at ha2
         repeat' first|refine sV ⟨?_⟩|refine sq (λh=>⟨?_⟩) λh=>⟨?_⟩|fail
         exact ⟨[],l.length - (i+1),rfl,by omega,i+1,by omega,rfl,ho2 ha2,rfl⟩
     · rw [hbad (by
        rw [Bool.eq_false_iff];simp only [aHz,ne_eq,Bool.and_eq_true,decide_eq_true_eq];intro e;exact hpre ⟨e.1.1.1.1,e.1.1.1.2,e.1.1.2,e.1.2⟩)]
       repeat' first|refine sV ⟨?_⟩|refine sq (λh=>⟨?_⟩) λh=>⟨?_⟩|fail
       all_goals first|((conv=>whnf);rfl)|omega
   · rw [List.take_of_length_le (by omega)] at ha
     rw [ho ha]
     repeat' first|refine sV ⟨?_⟩|refine sq (λh=>⟨?_⟩) λh=>⟨?_⟩|fail
     all_goals (conv=>whnf)
     rfl
 · rw [show aFh ⟨l,loss⟩=false by simp [aFh,h40]]
   refine vgo aLk Tryz.func14 ?_
   repeat' first|refine sV ⟨?_⟩|refine sq (λh=>⟨?_⟩) λh=>⟨?_⟩|fail
   all_goals (conv=>whnf)
   rfl
open Classical in
set_option maxHeartbeats 4000000 in
theorem bH7 (x y:Nd) (hx:x.Sm) (hy:y.Sm):aAc Tryz.prog gl 20 [.agg x.cells,.agg y.cells] (λr=>r= .bool (decide (x=y))):=by
 obtain ⟨op,a,b,name,shape,k,n,data⟩:=x
 obtain ⟨op2,a2,b2,name2,shape2,k2,n2,data2⟩:=y
 have hsame:=aDh gl shape shape2 (Nat.lt_of_le_of_lt hx.shape (by decide)) (Nat.lt_of_le_of_lt hy.shape (by decide))
 have hld:(aCm data).length=data.length:=rowS_length data
 have hld2:(aCm data2).length=data2.length:=rowS_length data2
 have hdl:data.length<=1000:=hx.data
 by_cases hpre:op=op2/\a=a2/\b=b2/\name=name2/\k=k2/\n=n2/\shape=shape2/\data.length=data2.length
 · obtain ⟨rfl,rfl,rfl,rfl,rfl,rfl,rfl,hdd⟩:=hpre
   have hT:decide ((⟨op,a,b,name,shape,k,n,data⟩:Nd)=⟨op,a,b,name,shape,k,n,data2⟩)=decide (data=data2):=by
    rw [Bool.eq_iff_iff,decide_eq_true_eq,decide_eq_true_eq]
    exact ⟨λe=>by injection e,λe=>by rw [e]⟩
   rw [hT]
   rw [decide_eq_true (rfl:shape=shape)] at hsame
   clear hT hx hy
   refine vgo aNq Tryz.func20 ?_
   repeat' first|refine sV ⟨?_⟩|refine sq (λh=>⟨?_⟩) λh=>⟨?_⟩|fail
   refine ⟨[2,3,5],[0,1],λm st=>∃i:Nat,i<=data.length/\m=data.length - i/\data.take i=data2.take i/\
    st=⟨[(2,.bptr 0 0),(3,.bptr 1 0),(5,.int .i64 (i:Nat))],[.box 34 (Nd.cells ⟨op,a,b,name,shape,k,n,data⟩),.box 34 (Nd.cells ⟨op,a,b,name,shape,k,n,data2⟩)]⟩,rfl,⟨data.length,0,by omega,rfl,rfl,rfl⟩,?_⟩
   rintro m _ ⟨i,hi,hm,ha,rfl⟩
   rcases Nat.lt_or_ge i data.length with hil|hge
   · have hil2:i<data2.length:=by omega
     have g:=aCd hil
     have g2:=aCd hil2
     by_cases he:data[i]=data2[i]
     · repeat' first|refine sV ⟨?_⟩|refine sq (λh=>⟨?_⟩) λh=>⟨?_⟩|fail
       refine ⟨by decide +kernel,[0,1,0,7,15,0,32,0,224,480,1023],by decide +kernel,?_⟩
       repeat' first|refine sV ⟨?_⟩|refine sq (λh=>⟨?_⟩) λh=>⟨?_⟩|fail
       exact ⟨[0,1],data.length - (i+1),rfl,by omega,i+1,by omega,rfl,aOy hil hil2 ha he,rfl⟩
     · rw [decide_eq_false (λe:data=data2=>he (by subst e;rfl))]
       repeat' first|refine sV ⟨?_⟩|refine sq (λh=>⟨?_⟩) λh=>⟨?_⟩|fail
       refine ⟨by decide +kernel,[0,1,0,7,15,0,32,0,224,480,1023],by decide +kernel,?_⟩
       repeat' first|refine sV ⟨?_⟩|refine sq (λh=>⟨?_⟩) λh=>⟨?_⟩|fail
       all_goals (conv=>whnf)
       rfl
   · rw [List.take_of_length_le (by omega),List.take_of_length_le (by omega)] at ha
     rw [decide_eq_true ha]
     repeat' first|refine sV ⟨?_⟩|refine sq (λh=>⟨?_⟩) λh=>⟨?_⟩|fail
     all_goals (conv=>whnf)
     rfl
 · rw [decide_eq_false (λe=>hpre (by cases e;exact ⟨rfl,rfl,rfl,rfl,rfl,rfl,rfl,rfl⟩))]
   refine vgo aNq Tryz.func20 ?_
   repeat' first|refine sV ⟨?_⟩|refine sq (λh=>⟨?_⟩) λh=>⟨?_⟩|fail
   all_goals first|((conv=>whnf);rfl)|(clear hsame hx hy;exfalso;apply hpre;simp_all;done)|(clear hsame hx hy;exfalso;apply hpre;simp_all;omega)
theorem Gr.ext' {g h:Gr}(h1:g.loss=h.loss) (h2:g.nodes=h.nodes):g=h:=by cases g;cases h;simp_all
open Classical in
set_option maxHeartbeats 4000000 in
theorem bDm (g h:Gr) (hg:∀x∈g.nodes,x.Sm) (hh:∀x∈h.nodes,x.Sm) (hgl:g.nodes.length<=1000):aAc Tryz.prog gl 32 [.agg g.cells,.agg h.cells] (λr=>r= .bool (decide (g=h))):=by
 obtain ⟨l,p⟩:=g
 obtain ⟨l2,p2⟩:=h
 have hld:(aAv l).length=l.length:=rowN_length l
 have hld2:(aAv l2).length=l2.length:=rowN_length l2
 dsimp only at hg hh hgl
 by_cases hpre:p=p2/\l.length=l2.length
 · obtain ⟨rfl,hdd⟩:=hpre
   have hT:decide ((⟨l,p⟩:Gr)=⟨l2,p⟩)=decide (l=l2):=by
    rw [Bool.eq_iff_iff,decide_eq_true_eq,decide_eq_true_eq]
    exact ⟨λe=>by injection e,λe=>by rw [e]⟩
   rw [hT]
   clear hT
   refine vgo aLj Tryz.func32 ?_
   repeat' first|refine sV ⟨?_⟩|refine sq (λh=>⟨?_⟩) λh=>⟨?_⟩|fail
   refine ⟨[2,3,5],[0,1],λm st=>∃i:Nat,i<=l.length/\m=l.length - i/\l.take i=l2.take i/\
    st=⟨[(2,.bptr 0 0),(3,.bptr 1 0),(5,.int .i64 (i:Nat))],[.box 24 (Gr.cells ⟨l,p⟩),.box 24 (Gr.cells ⟨l2,p⟩)]⟩,rfl,⟨l.length,0,by omega,rfl,rfl,rfl⟩,?_⟩
   rintro m _ ⟨i,hi,hm,ha,rfl⟩
   rcases Nat.lt_or_ge i l.length with hil|hge
   · have hil2:i<l2.length:=by omega
     have g:=aB1 hil
     have g2:=aB1 hil2
     have hs:=bH7 gl l[i] l2[i] (hg _ (List.getElem_mem hil)) (hh _ (List.getElem_mem hil2))
     by_cases he:l[i]=l2[i]
     · rw [decide_eq_true he] at hs
       repeat' first|refine sV ⟨?_⟩|refine sq (λh=>⟨?_⟩) λh=>⟨?_⟩|fail
       refine ⟨by decide +kernel,[0,1,0,7,15,0,32,0,224,480,1023,2047],by decide +kernel,?_⟩
       repeat' first|refine sV ⟨?_⟩|refine sq (λh=>⟨?_⟩) λh=>⟨?_⟩|fail
       exact ⟨[0,1],l.length - (i+1),rfl,by omega,i+1,by omega,rfl,aOy hil hil2 ha he,rfl⟩
     · rw [decide_eq_false he] at hs
       rw [decide_eq_false (λe:l=l2=>he (by subst e;rfl))]
       repeat' first|refine sV ⟨?_⟩|refine sq (λh=>⟨?_⟩) λh=>⟨?_⟩|fail
       refine ⟨by decide +kernel,[0,1,0,7,15,0,32,0,224,480,1023,2047],by decide +kernel,?_⟩
       repeat' first|refine sV ⟨?_⟩|refine sq (λh=>⟨?_⟩) λh=>⟨?_⟩|fail
       all_goals (conv=>whnf)
       rfl
   · rw [List.take_of_length_le (by omega),List.take_of_length_le (by omega)] at ha
     rw [decide_eq_true ha]
     repeat' first|refine sV ⟨?_⟩|refine sq (λh=>⟨?_⟩) λh=>⟨?_⟩|fail
     all_goals (conv=>whnf)
     rfl
 · rw [decide_eq_false (λe=>hpre (by cases e;exact ⟨rfl,rfl⟩))]
   refine vgo aLj Tryz.func32 ?_
   repeat' first|refine sV ⟨?_⟩|refine sq (λh=>⟨?_⟩) λh=>⟨?_⟩|fail
   all_goals first|((conv=>whnf);rfl)|(exfalso;apply hpre;simp_all;done)|(exfalso;apply hpre;simp_all;omega)
end Go.V
namespace Go.V
open Go.N Go.Proofs
set_option maxRecDepth 20000
def bQu:Tab:=[(24,i24),(22,i22),(34,i34),(3,i3),(27,i27),(79,i79),(4,i4),(9,i9)]
theorem aHi:TOK Tryz.prog bQu:=⟨K24,⟨K22,⟨K34,⟨K3,⟨K27,⟨K79,⟨K4,⟨K9,trivial⟩⟩⟩⟩⟩⟩⟩⟩
def bCn:Tab:=[(24,i24),(22,i22),(34,i34),(3,i3),(27,i27),(4,i4),(9,i9)]
theorem aEk:TOK Tryz.prog bCn:=⟨K24,⟨K22,⟨K34,⟨K3,⟨K27,⟨K4,⟨K9,trivial⟩⟩⟩⟩⟩⟩⟩
theorem cAn {r:List Int×Bool}{s:List Int}(h:okZ r=some s):aAl s=true:=by
 rw [okZ] at h
 by_cases hh:(r.2 && aAl r.1)=true
 · rw [if_pos hh] at h
   cases h
   rw [Bool.and_eq_true] at hh
   exact hh.2
 · rw [if_neg hh] at h;cases h
theorem aZx {l:List Nd}{x:Nd}{s:List Int}(h:aCu l x=some s):aAl s=true:=by
 cases hp:aBh x.op with
 |none=>rw [aK9 hp] at h;cases h
 |some m=>
  cases hf:aN8 l x m with
  |false=>rw [aEd hp hf] at h;cases h
  |true=>rw [aEo hp hf] at h;exact cAn h
def cBn (kv:List (ByteArray×AV)):List (ByteArray×AV):=kv.map λkx=>(kx.1,ren [0,1] kx.2)
theorem bFs (f:AV->AV) (x:ByteArray) (v:AV):∀l:List (ByteArray×AV),(aXw l x v).map (λkx=>(kx.1,f kx.2))=aXw (l.map λkx=>(kx.1,f kx.2)) x (f v)
 |[]=>rfl
 |(k,w)::r=>by
  unfold aXw
  simp only [List.map_cons]
  split
  · rfl
  · simp only [List.map_cons,bFs f x v r]
theorem bS2 {kv:List (ByteArray×AV)}(h:cBn kv=kv) (x:ByteArray) (e:Int):cBn (aXw kv x (.int .i64 e))=aXw kv x (.int .i64 e):=by
 rw [cBn,bFs,show (kv.map λkx=>(kx.1,ren [0,1] kx.2))=kv from h];simp [ren]
set_option maxHeartbeats 4000000 in
theorem bE1 (g:Gr) (hs:∀x∈g.nodes,x.Sm) (hl:g.nodes.length<=1000):aAc Tryz.prog GL 19 [.agg g.cells] (λr=>r= .bool (aC1 g)):=by
 obtain ⟨l,p⟩:=g
 have hlr:(aAv l).length=l.length:=rowN_length l
 dsimp only at hs hl
 show aAc _ _ _ [.agg [.ro 8 (aAv l),.int .i64 p]] _
 cases hpre:bBc ⟨l,p⟩
 · rw [show aC1 ⟨l,p⟩=false by rw [aC1,hpre];rfl]
   by_cases h1:1<=l.length
   · by_cases h2:l.length<=200
     · cases h3:inR p l
       · have:=aQl h3
         refine vgo aHi Tryz.func19 ?_
         repeat' first|refine sV ⟨?_⟩|refine sq (λh=>⟨?_⟩) λh=>⟨?_⟩|fail
         all_goals (conv=>whnf)
         all_goals rfl
       · obtain ⟨q,rfl,hq⟩:=aBc h3
         have h4:l[q].shape≠[]:=λe=>by
          simp only [bBc,h1,h2,h3,aAp hq,e] at hpre
          simp at hpre
         obtain ⟨_,_,_,_,_,_,_,g⟩:=aBz hq
         generalize l[q].shape=A at g h4
         have h5:A.length≠0:=λe=>h4 (List.length_eq_zero_iff.1 e)
         have hA:=rowZ_length A
         refine vgo aHi Tryz.func19 ?_
         repeat' first|refine sV ⟨?_⟩|refine sq (λh=>⟨?_⟩) λh=>⟨?_⟩|fail
         all_goals (conv=>whnf)
         all_goals rfl
     · refine vgo aHi Tryz.func19 ?_
       repeat' first|refine sV ⟨?_⟩|refine sq (λh=>⟨?_⟩) λh=>⟨?_⟩|fail
       all_goals (conv=>whnf)
       all_goals rfl
   · refine vgo aHi Tryz.func19 ?_
     repeat' first|refine sV ⟨?_⟩|refine sq (λh=>⟨?_⟩) λh=>⟨?_⟩|fail
     all_goals (conv=>whnf)
     all_goals rfl
 have hpre2:=hpre
 simp only [bBc,Bool.and_eq_true,decide_eq_true_eq] at hpre2
 obtain ⟨⟨⟨h1,h2⟩,h3⟩,h4⟩:=hpre2
 obtain ⟨q,rfl,hq⟩:=aBc h3
 rw [aAp hq] at h4
 obtain ⟨_,_,_,_,_,_,_,g⟩:=aBz hq
 rw [h4] at g
 rw [show aC1 ⟨l,(q:Int)⟩=aHd l l.length by rw [aC1,hpre];rfl]
 clear hpre h3 h4
 refine vgo aHi Tryz.func19 ?_
 repeat' first|refine sV ⟨?_⟩|refine sq (λh=>⟨?_⟩) λh=>⟨?_⟩|fail
 refine ⟨[1,3,44,45,46],[0,1],λm st=>∃(i:Nat) (kv:List (ByteArray×AV)),i<=l.length/\m=l.length - i/\aHd l i=true/\bPm kv (l.take i)/\cBn kv=kv/\
  st=⟨[(1,.bptr 0 0),(3,.map 1),(44,.ro 8 (aAv l)),(45,.int .i64 ((aAv l).length:Nat)),(46,.int .i64 (i:Nat))],[.box 24 [.ro 8 (aAv l),.int .i64 (q:Nat)],.kv kv]⟩,rfl,
  ⟨l.length,0,[],by omega,rfl,rfl,bNq,rfl,rfl⟩,?_⟩
 rintro m _ ⟨i,kv,hi,hm,ha,hkv,hrk,rfl⟩
 rcases Nat.lt_or_ge i l.length with hil|hge
 · obtain ⟨x,hx⟩:∃x,x=l[i]:=⟨_,rfl⟩
   have g:(aAv l)[i]? =some x.cells:=by rw [hx];exact aB1 hil
   have hnd:bD1 l i=bAf (l.take i) x:=by rw [hx];exact bNy hil
   have hxs:x.Sm:=by rw [hx];exact hs _ (List.getElem_mem hil)
   have htk:l.take (i+1)=l.take i++[x]:=by rw [hx];exact List.take_succ_eq_append_getElem hil
   clear hx
   have hinf:=bRq (l.take i) x hxs (λy hy=>hs y (List.mem_of_mem_take hy)) (by rw [List.length_take];omega)
   have hcl:=bZt (l.take i) x.name
   have hcp:=@bWb (l.take i) x
   have hsn:=@bIt kv (l.take i) x ((bMr (l.take i) x.name:Nat)+1) hkv rfl
   rw [<- htk] at hsn
   have hrs:=bS2 hrk x.name ((bMr (l.take i) x.name:Nat)+1)
   have hmp:=hkv x.name
   rw [List.length_take] at hcl
   generalize bMr (l.take i) x.name=c at hcl hcp hsn hmp hrs
   have hso:=aHl l i
   rw [ha,hnd,bAf,Bool.true_and] at hso
   have hbad:(decide (aCu (l.take i) x=some x.shape) && (l.take i).all (aC9 x))=false->aHd l l.length=false:=λh=>aYx hil (by rw [hnd,bAf];exact h)
   have hnn:x.name=⟨#[]⟩->(l.take i).all (aC9 x)=true:=λe=>by rw [List.all_eq_true];intro y _;simp [aC9,e]
   have hlen1:=hxs.shape
   cases hI:aCu (l.take i) x with
   |none=>
    rw [hbad (by simp [hI])]
    rw [hI] at hinf
    obtain ⟨op,a,b,name,shape,k,n,data⟩:=x
    repeat' first|refine sV ⟨?_⟩|refine sq (λh=>⟨?_⟩) λh=>⟨?_⟩|fail
    refine ⟨by decide +kernel,[0,1,0,7,0,31,63,127,127,255,1023],by decide +kernel,?_⟩
    repeat' first|refine sV ⟨?_⟩|refine sq (λh=>⟨?_⟩) λh=>⟨?_⟩|fail
    refine ⟨Int.le_refl _,by omega,by omega,aAv (l.take i),aJq l i,?_⟩
    repeat' first|refine sV ⟨?_⟩|refine sq (λh=>⟨?_⟩) λh=>⟨?_⟩|fail
    all_goals (conv=>whnf)
    all_goals rfl
   |some s=>
    rw [hI] at hinf hbad hso
    have hs2:s.length<=4:=by
     have:aAl s=true:=aZx hI
     exact aBg this
    have hsm:=aC4 GL s x.shape (by omega) (by omega)
    by_cases hss:s=x.shape
    · rw [decide_eq_true hss] at hsm
      by_cases hn:x.name=⟨#[]⟩
      · have hgo:aHd l (i+1)=true:=hso.trans (by rw [hnn hn,hss];simp)
        obtain ⟨op,a,b,name,shape,k,n,data⟩:=x
        repeat' first|refine sV ⟨?_⟩|refine sq (λh=>⟨?_⟩) λh=>⟨?_⟩|fail
        refine ⟨by decide +kernel,[0,1,0,7,0,31,63,127,127,255,1023],by decide +kernel,?_⟩
        repeat' first|refine sV ⟨?_⟩|refine sq (λh=>⟨?_⟩) λh=>⟨?_⟩|fail
        refine ⟨Int.le_refl _,by omega,by omega,aAv (l.take i),aJq l i,?_⟩
        repeat' first|refine sV ⟨?_⟩|refine sq (λh=>⟨?_⟩) λh=>⟨?_⟩|fail
        all_goals exact ⟨[0,1],l.length - (i+1),rfl,by omega,i+1,_,by omega,rfl,hgo,hsn,hrs,Eq.trans rfl (congrArg (λz=>(⟨[(1,.bptr 0 0),(3,.map 1),(44,.ro 8 (aAv l)),(45,.int .i64 ((aAv l).length:Nat)),(46,.int .i64 ((i+1:Nat):Int))],[.box 24 [.ro 8 (aAv l),.int .i64 (q:Nat)],.kv z]⟩:St)) hrs)⟩
      · by_cases hc:0<c
        · have hT:=hbad (by rw [(hcp hn).1 hc];simp)
          rw [hT]
          obtain ⟨op,a,b,name,shape,k,n,data⟩:=x
          repeat' first|refine sV ⟨?_⟩|refine sq (λh=>⟨?_⟩) λh=>⟨?_⟩|fail
          refine ⟨by decide +kernel,[0,1,0,7,0,31,63,127,127,255,1023],by decide +kernel,?_⟩
          repeat' first|refine sV ⟨?_⟩|refine sq (λh=>⟨?_⟩) λh=>⟨?_⟩|fail
          refine ⟨Int.le_refl _,by omega,by omega,aAv (l.take i),aJq l i,?_⟩
          repeat' first|refine sV ⟨?_⟩|refine sq (λh=>⟨?_⟩) λh=>⟨?_⟩|fail
          all_goals (conv=>whnf)
          all_goals rfl
        · have hall:(l.take i).all (aC9 x)=true:=by
           cases h:(l.take i).all (aC9 x)
           · exact absurd ((hcp hn).2 h) hc
           · rfl
          have hgo:aHd l (i+1)=true:=hso.trans (by rw [hall,hss];simp)
          obtain ⟨op,a,b,name,shape,k,n,data⟩:=x
          repeat' first|refine sV ⟨?_⟩|refine sq (λh=>⟨?_⟩) λh=>⟨?_⟩|fail
          refine ⟨by decide +kernel,[0,1,0,7,0,31,63,127,127,255,1023],by decide +kernel,?_⟩
          repeat' first|refine sV ⟨?_⟩|refine sq (λh=>⟨?_⟩) λh=>⟨?_⟩|fail
          refine ⟨Int.le_refl _,by omega,by omega,aAv (l.take i),aJq l i,?_⟩
          repeat' first|refine sV ⟨?_⟩|refine sq (λh=>⟨?_⟩) λh=>⟨?_⟩|fail
          all_goals exact ⟨[0,1],l.length - (i+1),rfl,by omega,i+1,_,by omega,rfl,hgo,hsn,hrs,Eq.trans rfl (congrArg (λz=>(⟨[(1,.bptr 0 0),(3,.map 1),(44,.ro 8 (aAv l)),(45,.int .i64 ((aAv l).length:Nat)),(46,.int .i64 ((i+1:Nat):Int))],[.box 24 [.ro 8 (aAv l),.int .i64 (q:Nat)],.kv z]⟩:St)) hrs)⟩
    · rw [decide_eq_false hss] at hsm
      rw [hbad (by simp [hss])]
      obtain ⟨op,a,b,name,shape,k,n,data⟩:=x
      repeat' first|refine sV ⟨?_⟩|refine sq (λh=>⟨?_⟩) λh=>⟨?_⟩|fail
      refine ⟨by decide +kernel,[0,1,0,7,0,31,63,127,127,255,1023],by decide +kernel,?_⟩
      repeat' first|refine sV ⟨?_⟩|refine sq (λh=>⟨?_⟩) λh=>⟨?_⟩|fail
      refine ⟨Int.le_refl _,by omega,by omega,aAv (l.take i),aJq l i,?_⟩
      repeat' first|refine sV ⟨?_⟩|refine sq (λh=>⟨?_⟩) λh=>⟨?_⟩|fail
      all_goals (conv=>whnf)
      all_goals rfl
 · have hi2:i=l.length:=by omega
   subst hi2
   rw [ha]
   repeat' first|refine sV ⟨?_⟩|refine sq (λh=>⟨?_⟩) λh=>⟨?_⟩|fail
   all_goals (conv=>whnf)
   all_goals rfl
end Go.V
namespace Go.V
open Go.N Go.Proofs
set_option maxRecDepth 20000
variable (gl:Gl)
theorem aNx {l:List Nd}{i j:Nat}(hj:j<i) (hi:i<=l.length):(l.take i)[j]'(by rw [List.length_take];omega)=l[j]:=by simp
set_option maxHeartbeats 4000000 in
theorem bDn (g:Gr) (hs:∀x∈g.nodes,x.Sm) (hl:g.nodes.length<=1000):aAc Tryz.prog gl 18 [.agg g.cells] (λr=>r= .bool (aC1 g)):=by
 obtain ⟨l,p⟩:=g
 have hlr:(aAv l).length=l.length:=rowN_length l
 dsimp only at hs hl
 show aAc _ _ _ [.agg [.ro 8 (aAv l),.int .i64 p]] _
 cases hpre:bBc ⟨l,p⟩
 · rw [show aC1 ⟨l,p⟩=false by rw [aC1,hpre];rfl]
   by_cases h1:1<=l.length
   · by_cases h2:l.length<=200
     · cases h3:inR p l
       · have:=aQl h3
         refine vgo aEk Tryz.func18 ?_
         repeat' first|refine sV ⟨?_⟩|refine sq (λh=>⟨?_⟩) λh=>⟨?_⟩|fail
         all_goals (conv=>whnf)
         all_goals rfl
       · obtain ⟨q,rfl,hq⟩:=aBc h3
         have h4:l[q].shape≠[]:=λe=>by
          simp only [bBc,h1,h2,h3,aAp hq,e] at hpre
          simp at hpre
         obtain ⟨_,_,_,_,_,_,_,g⟩:=aBz hq
         generalize l[q].shape=A at g h4
         have h5:A.length≠0:=λe=>h4 (List.length_eq_zero_iff.1 e)
         have hA:=rowZ_length A
         refine vgo aEk Tryz.func18 ?_
         repeat' first|refine sV ⟨?_⟩|refine sq (λh=>⟨?_⟩) λh=>⟨?_⟩|fail
         all_goals (conv=>whnf)
         all_goals rfl
     · refine vgo aEk Tryz.func18 ?_
       repeat' first|refine sV ⟨?_⟩|refine sq (λh=>⟨?_⟩) λh=>⟨?_⟩|fail
       all_goals (conv=>whnf)
       all_goals rfl
   · refine vgo aEk Tryz.func18 ?_
     repeat' first|refine sV ⟨?_⟩|refine sq (λh=>⟨?_⟩) λh=>⟨?_⟩|fail
     all_goals (conv=>whnf)
     all_goals rfl
 have hpre2:=hpre
 simp only [bBc,Bool.and_eq_true,decide_eq_true_eq] at hpre2
 obtain ⟨⟨⟨h1,h2⟩,h3⟩,h4⟩:=hpre2
 obtain ⟨q,rfl,hq⟩:=aBc h3
 rw [aAp hq] at h4
 obtain ⟨_,_,_,_,_,_,_,g⟩:=aBz hq
 rw [h4] at g
 rw [show aC1 ⟨l,(q:Int)⟩=aHd l l.length by rw [aC1,hpre];rfl]
 clear hpre h3 h4
 refine vgo aEk Tryz.func18 ?_
 repeat' first|refine sV ⟨?_⟩|refine sq (λh=>⟨?_⟩) λh=>⟨?_⟩|fail
 refine ⟨[1,3],[0],λm st=>∃(i:Nat),i<=l.length/\m=l.length - i/\aHd l i=true/\
  st=⟨[(1,.bptr 0 0),(3,.int .i64 (i:Nat))],[.box 24 [.ro 8 (aAv l),.int .i64 (q:Nat)]]⟩,rfl,
  ⟨l.length,0,by omega,rfl,rfl,rfl⟩,?_⟩
 rintro m _ ⟨i,hi,hm,ha,rfl⟩
 rcases Nat.lt_or_ge i l.length with hil|hge
 · obtain ⟨x,hx⟩:∃x,x=l[i]:=⟨_,rfl⟩
   have g:(aAv l)[i]? =some x.cells:=by rw [hx];exact aB1 hil
   have hnd:bD1 l i=bAf (l.take i) x:=by rw [hx];exact bNy hil
   have hxs:x.Sm:=by rw [hx];exact hs _ (List.getElem_mem hil)
   clear hx
   have hsh:=bDo gl (l.take i) x hxs (λy hy=>hs y (List.mem_of_mem_take hy))
   have hri:=bIz (l.take i) x
   have hso:=aHl l i
   rw [ha,hnd,bAf,Bool.true_and] at hso
   have hbad:(decide (aCu (l.take i) x=some x.shape) && (l.take i).all (aC9 x))=false->aHd l l.length=false:=λh=>aYx hil (by rw [hnd,bAf];exact h)
   have hlen1:=hxs.shape
   generalize bD8 (l.take i) x=R at hsh hri
   obtain ⟨s,ok⟩:=R
   dsimp only at hsh hri
   cases ok with
   |false=>
    rw [hbad (by
     cases h:aCu (l.take i) x with
     |none=>rfl
     |some s=>rw [h] at hri;exact absurd hri.1 (by simp))]
    obtain ⟨op,a,b,name,shape,k,n,data⟩:=x
    repeat' first|refine sV ⟨?_⟩|refine sq (λh=>⟨?_⟩) λh=>⟨?_⟩|fail
    refine ⟨by decide +kernel,[0,1,0,7,0,16,0,112,240,511,1023,2047,2047,4095,16383],by decide +kernel,?_⟩
    repeat' first|refine sV ⟨?_⟩|refine sq (λh=>⟨?_⟩) λh=>⟨?_⟩|fail
    refine ⟨Int.le_refl _,by omega,by omega,aAv (l.take i),aJq l i,?_⟩
    repeat' first|refine sV ⟨?_⟩|refine sq (λh=>⟨?_⟩) λh=>⟨?_⟩|fail
    all_goals (conv=>whnf)
    all_goals rfl
   |true=>
    have hI:=hri.2 rfl
    have hs2:=aBg (aZx hI)
    have hsm:=aDh gl s x.shape (by omega) (by omega)
    rw [hI] at hbad hso
    by_cases hss:s=x.shape
    · rw [decide_eq_true hss] at hsm
      rw [hss,decide_eq_true rfl,Bool.true_and] at hso hbad
      have hnk:∀k (hk:k<i),aC9 x l[k]=false->aHd l l.length=false:=λk hk h=>hbad (List.all_eq_false.2 ⟨l[k],by
       rw [<- aNx hk hi];exact List.getElem_mem _,by simp [h]⟩)
      have htk:∀k (hk:k<i),((l.take i).take k).all (aC9 x)=true->aC9 x l[k]=true->((l.take i).take (k+1)).all (aC9 x)=true:=λk hk h1 h2=>
       aOf (by rw [List.length_take];omega) h1 (by rw [aNx hk hi];exact h2)
      obtain ⟨op,a,b,name,shape,k,n,data⟩:=x
      repeat' first|refine sV ⟨?_⟩|refine sq (λh=>⟨?_⟩) λh=>⟨?_⟩|fail
      refine ⟨by decide +kernel,[0,1,0,7,0,16,0,112,240,511,1023,2047,2047,4095,16383],by decide +kernel,?_⟩
      repeat' first|refine sV ⟨?_⟩|refine sq (λh=>⟨?_⟩) λh=>⟨?_⟩|fail
      refine ⟨Int.le_refl _,by omega,by omega,aAv (l.take i),aJq l i,?_⟩
      repeat' first|refine sV ⟨?_⟩|refine sq (λh=>⟨?_⟩) λh=>⟨?_⟩|fail
      refine ⟨[1,3,6],[0],λm st=>∃(j:Nat),j<=i/\m=i - j/\((l.take i).take j).all (aC9 ⟨op,a,b,name,shape,k,n,data⟩)=true/\
       st=⟨[(1,.bptr 0 0),(3,.int .i64 (i:Nat)),(6,.int .i64 (j:Nat))],[.box 24 [.ro 8 (aAv l),.int .i64 (q:Nat)]]⟩,rfl,
       ⟨i,0,by omega,rfl,rfl,rfl⟩,?_⟩
      rintro m2 _ ⟨j,hj,hm2,ha2,rfl⟩
      rcases Nat.lt_or_ge j i with hji|hge
      · obtain ⟨y,hy⟩:∃y,y=l[j]:=⟨_,rfl⟩
        have g2:(aAv l)[j]? =some y.cells:=by rw [hy];exact aB1 (by omega)
        have hb:=hnk j hji
        have hg:=htk j hji ha2
        rw [<- hy] at hb hg
        clear hy hnk htk
        obtain ⟨op2,a2,b2,name2,shape2,k2,n2,data2⟩:=y
        simp only [aC9] at hb hg
        by_cases hn:name=⟨#[]⟩
        · have hg:=hg (by simp [hn])
          repeat' first|refine sV ⟨?_⟩|refine sq (λh=>⟨?_⟩) λh=>⟨?_⟩|fail
          refine ⟨by decide +kernel,[0,1,0,7,15,31,63,127,255,511,255,2047,4095,8191,255,16639,255,114943,246015,508159,1048575,2097151],by decide +kernel,?_⟩
          repeat' first|refine sV ⟨?_⟩|refine sq (λh=>⟨?_⟩) λh=>⟨?_⟩|fail
          exact ⟨[0],i - (j+1),rfl,by omega,j+1,by omega,rfl,hg,rfl⟩
        · by_cases hnn:name2=name
          · have hT:=hb (by simp [hn,hnn])
            rw [hT]
            repeat' first|refine sV ⟨?_⟩|refine sq (λh=>⟨?_⟩) λh=>⟨?_⟩|fail
            refine ⟨by decide +kernel,[0,1,0,7,15,31,63,127,255,511,255,2047,4095,8191,255,16639,255,114943,246015,508159,1048575,2097151],by decide +kernel,?_⟩
            repeat' first|refine sV ⟨?_⟩|refine sq (λh=>⟨?_⟩) λh=>⟨?_⟩|fail
            all_goals (conv=>whnf)
            all_goals rfl
          · have hg:=hg (by simp [hnn])
            repeat' first|refine sV ⟨?_⟩|refine sq (λh=>⟨?_⟩) λh=>⟨?_⟩|fail
            refine ⟨by decide +kernel,[0,1,0,7,15,31,63,127,255,511,255,2047,4095,8191,255,16639,255,114943,246015,508159,1048575,2097151],by decide +kernel,?_⟩
            repeat' first|refine sV ⟨?_⟩|refine sq (λh=>⟨?_⟩) λh=>⟨?_⟩|fail
            exact ⟨[0],i - (j+1),rfl,by omega,j+1,by omega,rfl,hg,rfl⟩
      · rw [List.take_of_length_le (l:=l.take i) (by rw [List.length_take];omega)] at ha2
        rw [ha2] at hso
        repeat' first|refine sV ⟨?_⟩|refine sq (λh=>⟨?_⟩) λh=>⟨?_⟩|fail
        exact ⟨[0],l.length - (i+1),rfl,by omega,i+1,by omega,rfl,hso,rfl⟩
    · rw [decide_eq_false hss] at hsm
      rw [hbad (by simp [hss])]
      obtain ⟨op,a,b,name,shape,k,n,data⟩:=x
      repeat' first|refine sV ⟨?_⟩|refine sq (λh=>⟨?_⟩) λh=>⟨?_⟩|fail
      refine ⟨by decide +kernel,[0,1,0,7,0,16,0,112,240,511,1023,2047,2047,4095,16383],by decide +kernel,?_⟩
      repeat' first|refine sV ⟨?_⟩|refine sq (λh=>⟨?_⟩) λh=>⟨?_⟩|fail
      refine ⟨Int.le_refl _,by omega,by omega,aAv (l.take i),aJq l i,?_⟩
      repeat' first|refine sV ⟨?_⟩|refine sq (λh=>⟨?_⟩) λh=>⟨?_⟩|fail
      all_goals (conv=>whnf)
      all_goals rfl
 · have hi2:i=l.length:=by omega
   subst hi2
   rw [ha]
   repeat' first|refine sV ⟨?_⟩|refine sq (λh=>⟨?_⟩) λh=>⟨?_⟩|fail
   all_goals (conv=>whnf)
   all_goals rfl
end Go.V
namespace Go.V
open Go.N Go.Proofs
set_option maxRecDepth 20000
def cCj (x:Nd) (k:Nat):Bool:=(decide (0<aIp x.op) && decide (x.a=(k:Int))) || (decide (1<aIp x.op) && decide (x.b=(k:Int)))
inductive NeedP (g:Gr) (keep:List Int):Nat->Prop
 |loss {i:Nat}:(i:Int)=g.loss->NeedP g keep i
 |keep {i:Nat}:(i:Int)∈keep->NeedP g keep i
 |name {i:Nat} {x:Nd}:g.nodes[i]? =some x->x.name≠⟨#[]⟩->NeedP g keep i
 |use {i j:Nat} {x:Nd}:i<j->g.nodes[j]? =some x->cCj x i=true->NeedP g keep j->NeedP g keep i
def cHy (g:Gr) (keep:List Int) (m j:Nat):Prop:=(j:Int)=g.loss\/(j:Int)∈keep\/∃k x,m<=k/\g.nodes[k]? =some x/\cCj x j=true/\NeedP g keep k
theorem cGw {g:Gr}{keep:List Int}{i:Nat}{x:Nd}(hx:g.nodes[i]? =some x):NeedP g keep i↔cHy g keep (i+1) i\/x.name≠⟨#[]⟩:=by
 constructor
 · intro h
   cases h with
   |loss h=>exact .inl (.inl h)
   |keep h=>exact .inl (.inr (.inl h))
   |name h1 h2=>rw [hx] at h1;cases h1;exact .inr h2
   |use h1 h2 h3 h4=>exact .inl (.inr (.inr ⟨_,_,h1,h2,h3,h4⟩))
 · rintro ((h|h|⟨k,y,h1,h2,h3,h4⟩)|h)
   · exact .loss h
   · exact .keep h
   · exact .use h1 h2 h3 h4
   · exact .name hx h
theorem cHo {g:Gr}{keep:List Int}{i j:Nat}{x:Nd}(hx:g.nodes[i]? =some x):cHy g keep i j↔cHy g keep (i+1) j\/(NeedP g keep i/\cCj x j=true):=by
 constructor
 · rintro (h|h|⟨k,y,h1,h2,h3,h4⟩)
   · exact .inl (.inl h)
   · exact .inl (.inr (.inl h))
   · rcases Nat.eq_or_lt_of_le h1 with h|h
     · subst h;rw [hx] at h2;cases h2;exact .inr ⟨h4,h3⟩
     · exact .inl (.inr (.inr ⟨k,y,h,h2,h3,h4⟩))
 · rintro ((h|h|⟨k,y,h1,h2,h3,h4⟩)|⟨h1,h2⟩)
   · exact .inl h
   · exact .inr (.inl h)
   · exact .inr (.inr ⟨k,y,by omega,h2,h3,h4⟩)
   · exact .inr (.inr ⟨i,x,Nat.le_refl _,hx,h2,h1⟩)
theorem cHu {g:Gr}{keep:List Int}{m j:Nat}(h:g.nodes.length<=m):cHy g keep m j↔(j:Int)=g.loss\/(j:Int)∈keep:=by
 constructor
 · rintro (h1|h1|⟨k,y,h1,h2,h3,h4⟩)
   · exact .inl h1
   · exact .inr h1
   · have:=(List.getElem?_eq_some_iff.1 h2).1;omega
 · rintro (h1|h1)
   · exact .inl h1
   · exact .inr (.inl h1)
open Classical in
noncomputable def NB (g:Gr) (keep:List Int) (j:Nat):Bool:=decide (NeedP g keep j)
theorem cEv {g:Gr}{keep:List Int}{j:Nat}:NB g keep j=true↔NeedP g keep j:=by simp [NB]
def fB (n:Nat) (F:Nat->Bool):List (List AV):=(List.range n).map λj=>[.bool (F j)]
@[simp] theorem fB_length (n:Nat) (F:Nat->Bool):(fB n F).length=n:=by simp [fB]
theorem cFg {n k:Nat}{F:Nat->Bool}(h:k<n):(fB n F)[k]? =some [.bool (F k)]:=by simp [fB,h]
def cF1 (F:Nat->Bool) (k:Nat) (v:Bool):Nat->Bool:=λj=>if j=k then v else F j
theorem cE8 (n k:Nat) (F:Nat->Bool) (v:Bool):(fB n F).set k [.bool v]=fB n (cF1 F k v):=by
 refine List.ext_getElem? λj=>?_
 rw [List.getElem?_set]
 by_cases hj:j<n
 · by_cases hk:k=j
   · subst hk;simp [fB,hj,cF1]
   · simp [hk,fB,hj,cF1,show ¬j=k from λe=>hk e.symm]
 · have:(fB n (cF1 F k v))[j]? =none:=by simp [fB,hj]
   rw [this]
   by_cases hk:k=j
   · simp [hk,hj]
   · simp [hk,fB,hj]
theorem cHt (n:Nat):List.replicate n [.bool false]=fB n λ_=>false:=by simp [fB,List.map_const']
theorem cHk {n:Nat}{F G:Nat->Bool}(h:∀j,j<n->F j=G j):fB n F=fB n G:=List.map_congr_left λj hj=>by rw [h j (List.mem_range.1 hj)]
theorem cF0 (F:Nat->Bool) (k:Nat) (v:Bool):cF1 F k v k=v:=if_pos rfl
theorem cGu (F:Nat->Bool){k j:Nat}(v:Bool) (h:j≠k):cF1 F k v j=F j:=if_neg h
def cEx (g:Gr) (keep:List Int):Bool:= !(keep.any λx=>decide (x<0) || decide ((g.nodes.length:Int)<=x))
def cEu (g:Gr) (keep:List Int):Bool:=aC1 g && cEx g keep
theorem cE7 {g:Gr}{keep:List Int}(h:cEx g keep=true){x:Int}(hx:x∈keep):∃k:Nat,x=k/\k<g.nodes.length:=by
 simp only [cEx,Bool.not_eq_true',List.any_eq_false] at h
 have:=h x hx
 simp only [Bool.or_eq_true,decide_eq_true_eq] at this
 exact ⟨x.toNat,by omega,by omega⟩
theorem bLk {l:List Nd}{n i:Nat}(h:aHd l n=true) (hi:i<n):bD1 l i=true:=List.all_eq_true.1 h i (List.mem_range.2 hi)
theorem bOa {g:Gr}(h:aC1 g=true){i:Nat}{x:Nd}(hx:g.nodes[i]? =some x):bAf (g.nodes.take i) x=true:=by
 simp only [aC1,Bool.and_eq_true] at h
 have h1:=(List.getElem?_eq_some_iff.1 hx).1
 have:=bLk h.2 h1
 rw [bD1,hx] at this
 exact this
theorem aOt {g:Gr}(h:aC1 g=true){i:Nat}{x:Nd}(hx:g.nodes[i]? =some x):aCu (g.nodes.take i) x=some x.shape:=by
 have:=bOa h hx
 simp only [bAf,Bool.and_eq_true,decide_eq_true_eq] at this
 exact this.1
theorem cGn {g:Gr}(h:aC1 g=true){i:Nat}{x:Nd}(hx:g.nodes[i]? =some x):∃m,aBh x.op=some m/\Fit (g.nodes.take i) x m:=by
 have h1:=aOt h hx
 cases hp:aBh x.op with
 |none=>rw [aK9 hp] at h1;cases h1
 |some m=>
  cases hf:aN8 (g.nodes.take i) x m with
  |false=>rw [aEd hp hf] at h1;cases h1
  |true=>exact ⟨m,rfl,(aI7 _ _ _).1 hf⟩
theorem cGi {l:List Nd}{i:Nat}{a:Int}(h:inR a (l.take i)=true):∃k:Nat,a=k/\k<i:=by
 obtain ⟨k,hk,hl⟩:=aBc h
 exact ⟨k,hk,by rw [List.length_take] at hl;omega⟩
theorem cE1 {g:Gr}(h:aC1 g=true){i:Nat}{x:Nd}(hx:g.nodes[i]? =some x):∀p∈cEp x,∃k:Nat,p=k/\k<i:=by
 obtain ⟨m,hp,F⟩:=cGn h hx
 have hm:=aNi hp
 intro p hpm
 rw [cEp,hp] at hpm
 have h3:m=0\/m=1\/m=2:=by omega
 rcases h3 with rfl|rfl|rfl
 · simp at hpm
 · simp at hpm;subst hpm;exact cGi (F.ia (by decide))
 · simp at hpm
   rcases hpm with rfl|rfl
   · exact cGi (F.ia (by decide))
   · exact cGi (F.ib (by decide))
theorem cGs {g:Gr}(h:aC1 g=true){i:Nat}{x:Nd}(hx:g.nodes[i]? =some x) (j:Nat):cCj x j=true↔(j:Int)∈cEp x:=by
 obtain ⟨m,hp,F⟩:=cGn h hx
 have hm:=aNi hp
 have h3:m=0\/m=1\/m=2:=by omega
 rw [cCj,cEp,aIp,hp]
 rcases h3 with rfl|rfl|rfl
 · show (false && decide (x.a=(j:Int)) || false && decide (x.b=(j:Int)))=true↔(j:Int)∈[]
   simp only [Bool.false_and,Bool.or_false,List.not_mem_nil,Bool.false_eq_true]
 · show (true && decide (x.a=(j:Int)) || false && decide (x.b=(j:Int)))=true↔(j:Int)∈[x.a]
   simp only [Bool.true_and,Bool.false_and,Bool.or_false,decide_eq_true_eq,List.mem_singleton]
   exact eq_comm
 · show (true && decide (x.a=(j:Int)) || true && decide (x.b=(j:Int)))=true↔(j:Int)∈[x.a,x.b]
   simp only [Bool.true_and,Bool.or_eq_true,decide_eq_true_eq,List.mem_cons,List.not_mem_nil,or_false]
   exact ⟨λe=>e.imp Eq.symm Eq.symm,λe=>e.imp Eq.symm Eq.symm⟩
theorem aMd {g:Gr}(h:aC1 g=true):1<=g.nodes.length/\g.nodes.length<=200/\∃q:Nat,g.loss=q/\q<g.nodes.length:=by
 simp only [aC1,bBc,Bool.and_eq_true,decide_eq_true_eq] at h
 exact ⟨h.1.1.1.1,h.1.1.1.2,aBc h.1.1.2⟩
end Go.V
namespace Go.V
open Go.N Go.Proofs
set_option maxRecDepth 20000
def cG5:Tab:=[(24,i24),(4,i4),(27,i27),(3,i3),(159,cX5),(22,i22),(34,i34),(98,i98),(9,i9)]
theorem cFd:TOK Tryz.prog cG5:=⟨K24,⟨K4,⟨K27,⟨K3,⟨cYc,⟨K22,⟨K34,⟨K98,⟨K9,trivial⟩⟩⟩⟩⟩⟩⟩⟩⟩
def cH4:Tab:=[(3,i3),(24,i24),(22,i22),(34,i34)]
theorem cHp:TOK Tryz.prog cH4:=⟨K3,⟨K24,⟨K22,⟨K34,trivial⟩⟩⟩⟩
theorem cH5 (gl:Gl) (l:List Nd) (p x:Int):aAc Tryz.prog gl 120 [.int .i64 x,.rp [.ro 8 (aAv l),.int .i64 p]] (λy=>y= .bool (decide (x<0) || decide ((l.length:Int)<=x))):=by
 rw [<- rowN_length]
 refine vgo cHp Tryz.func120 ?_
 repeat' first|refine sV ⟨?_⟩|refine sq (λh=>⟨?_⟩) λh=>⟨?_⟩|fail
 all_goals (conv=>whnf)
 · exact congrArg AV.bool (by simp [h])
 · exact congrArg AV.bool (by simp [h])
theorem cG0 (x:Nd):(cEp x).length<=2:=by unfold cEp;split<;>simp
set_option maxHeartbeats 4000000 in
theorem cG7 (g:Gr) (keep:List Int) (hs:∀x∈g.nodes,x.Sm) (hl:g.nodes.length<=1000) (hk:keep.length<=1000):
 aAc Tryz.prog GL 64 [.agg g.cells,.ro 1 (aAh keep)] (λy=>y=if cEu g keep=true then .tup [.ro 1 (fB g.nodes.length (NB g keep)),.int .i64 0] else .tup [.ro 1 [],.int .i64 1]):=by
 have hR:=bE1 g hs hl
 have hpre:=@aMd g
 have hpt:=@cE1 g
 have hus:=@cGs g
 have hcf:=cFf GL 120 [.ro 8 (aAv g.nodes),.int .i64 g.loss] keep (λx=>decide (x<0) || decide ((g.nodes.length:Int)<=x)) (by omega) (λx _=>cH5 GL g.nodes g.loss x)
 have hke:=@cE7 g keep
 have hk2:cEx g keep= !(keep.any λx=>decide (x<0) || decide ((g.nodes.length:Int)<=x)):=rfl
 generalize (keep.any λx=>decide (x<0) || decide ((g.nodes.length:Int)<=x))=bad at hcf hk2
 refine aAc.taken ?_
 cases hok:cEu g keep
 · rw [if_neg (by simp)]
   obtain ⟨l,p⟩:=g
   show aAc _ _ _ [.agg [.ro 8 (aAv l),.int .i64 p],_] _
   refine vgo cFd Tryz.func64 ?_
   cases hg:aC1 ⟨l,p⟩
   · rw [hg] at hR
     repeat' first|refine sV ⟨?_⟩|refine sq (λh=>⟨?_⟩) λh=>⟨?_⟩|fail
     all_goals (conv=>whnf)
     all_goals exact ⟨_,aAf (show aC7 .nils (.ro 1 []) from ⟨1,rfl⟩) rfl,rfl⟩
   · rw [hg] at hR
     have hb:bad=true:=by
      rw [cEu,hg,hk2] at hok
      cases bad
      · exact absurd hok (by decide)
      · rfl
     rw [hb] at hcf
     repeat' first|refine sV ⟨?_⟩|refine sq (λh=>⟨?_⟩) λh=>⟨?_⟩|fail
     all_goals (conv=>whnf)
     all_goals exact ⟨_,aAf (show aC7 .nils (.ro 1 []) from ⟨1,rfl⟩) rfl,rfl⟩
 have hg:aC1 g=true:=by simp only [cEu,Bool.and_eq_true] at hok;exact hok.1
 have hkk:cEx g keep=true:=by simp only [cEu,Bool.and_eq_true] at hok;exact hok.2
 rw [if_pos rfl]
 have hb:bad=false:=by rw [hkk] at hk2;cases bad;rfl;exact absurd hk2 (by decide)
 rw [hb] at hcf
 rw [hg] at hR
 obtain ⟨h1,h2,q,hq1,hq⟩:=hpre hg
 have hpt1:=λ{i:Nat} {x:Nd}=>@hpt hg i x
 have hus1:=λ{i:Nat} {x:Nd}=>@hus hg i x
 have hke1:=@hke hkk
 clear hpt hus hke
 have hni:=@cGw g keep
 have hps:=@cHo g keep
 have hpt2:=@cHu g keep
 have hNB:=@cEv g keep
 have hget:∀i (h:i<g.nodes.length),g.nodes[i]? =some g.nodes[i]:=λi h=>List.getElem?_eq_getElem h
 clear hok hkk hk2 hg hpre
 obtain ⟨l,p⟩:=g
 dsimp only at*
 subst hq1
 generalize NB ⟨l,(q:Int)⟩ keep=N at hNB ⊢
 generalize NeedP ⟨l,(q:Int)⟩ keep=NP at hNB hni hps
 generalize cHy ⟨l,(q:Int)⟩ keep=PP at hni hps hpt2
 show aAc _ _ _ [.agg [.ro 8 (aAv l),.int .i64 (q:Nat)],_] _
 have hlr:=rowN_length l
 have hkl:=rowZ_length keep
 refine vgo cFd Tryz.func64 ?_
 repeat' first|refine sV ⟨?_⟩|refine sq (λh=>⟨?_⟩) λh=>⟨?_⟩|fail
 refine ⟨by omega,Int.le_refl _,by omega,(show ((aAv l).length:Int)*((1:Nat):Int)<=140737488355328 by omega),l.length,congrArg Nat.cast hlr,?_⟩
 have hz:(List.replicate l.length [AV.bool false])[0+q]? =some [.bool false]:=by simp [hq]
 repeat' first|refine sV ⟨?_⟩|refine sq (λh=>⟨?_⟩) λh=>⟨?_⟩|fail
 refine ⟨[2,6,28,29,30],[0,1],λm st=>∃(t:Nat) (F:Nat->Bool),t<=keep.length/\m=keep.length - t/\(∀ j,j<l.length->(F j=true↔(j=q\/(j:Int)∈keep.take t)))/\
  st=⟨[(2,.bptr 0 0),(6,.own 1 0 l.length),(28,.ro 1 (aAh keep)),(29,.int .i64 ((aAh keep).length:Nat)),(30,.int .i64 (t:Nat))],[.box 24 [.ro 8 (aAv l),.int .i64 (q:Nat)],.row false 4 1 (fB l.length F)]⟩,rfl,
  ⟨keep.length,0,cF1 (λ_=>false) q true,by omega,rfl,λj hj=>by unfold cF1;split<;>simp_all,Eq.trans rfl (congrArg (λz=>(⟨[(2,.bptr 0 0),(6,.own 1 0 l.length),(28,.ro 1 (aAh keep)),(29,.int .i64 ((aAh keep).length:Nat)),(30,.int .i64 ((0:Nat):Int))],[.box 24 [.ro 8 (aAv l),.int .i64 (q:Nat)],.row false 4 1 z]⟩:St))
    (show (List.replicate l.length [AV.bool false]).set (0+q) [.bool true]=_ by rw [cHt,Nat.zero_add,cE8]))⟩,?_⟩
 rintro m _ ⟨t,F,ht,hm,hF,rfl⟩
 rcases Nat.lt_or_ge t keep.length with htl|hge
 · obtain ⟨k,hk1,hk2⟩:=hke1 (List.getElem_mem htl)
   have g:(aAh keep)[t]? =some [.int .i64 (k:Nat)]:=by rw [aE6 htl,hk1]
   have g2:(fB l.length F)[0+k]? =some [.bool (F k)]:=by rw [Nat.zero_add];exact cFg hk2
   have e:(fB l.length F).set (0+k) [.bool true]=fB l.length (cF1 F k true):=by rw [Nat.zero_add,cE8]
   have hF':∀j,j<l.length->(cF1 F k true j=true↔(j=q\/(j:Int)∈keep.take (t+1))):=λj hj=>by
    rw [List.take_succ_eq_append_getElem htl,List.mem_append,List.mem_singleton,hk1,Int.ofNat_inj,<-or_assoc,<-hF j hj]
    unfold cF1
    split<;>simp_all
   repeat' first|refine sV ⟨?_⟩|refine sq (λh=>⟨?_⟩) λh=>⟨?_⟩|fail
   exact ⟨[0,1],keep.length - (t+1),rfl,by omega,t+1,_,by omega,rfl,hF',Eq.trans rfl (congrArg (λz=>(⟨[(2,.bptr 0 0),(6,.own 1 0 l.length),(28,.ro 1 (aAh keep)),(29,.int .i64 ((aAh keep).length:Nat)),(30,.int .i64 ((t+1:Nat):Int))],[.box 24 [.ro 8 (aAv l),.int .i64 (q:Nat)],.row false 4 1 z]⟩:St)) e)⟩
 rw [List.take_of_length_le (by omega)] at hF
 repeat' first|refine sV ⟨?_⟩|refine sq (λh=>⟨?_⟩) λh=>⟨?_⟩|fail
 refine ⟨[2,6,9],[0,1],λm st=>∃(e:Int) (F:Nat->Bool),e=(m:Int) - 1/\m<=l.length/\(∀ j,j<l.length->(F j=true↔(if m<=j then NP j else PP m j)))/\
  st=⟨[(2,.bptr 0 0),(6,.own 1 0 l.length),(9,.int .i64 e)],[.box 24 [.ro 8 (aAv l),.int .i64 (q:Nat)],.row false 4 1 (fB l.length F)]⟩,rfl,
  ⟨l.length,_,F,by omega,Nat.le_refl _,λj hj=>by rw [if_neg (by omega),hpt2 (Nat.le_refl _),hF j hj,Int.ofNat_inj],rfl⟩,?_⟩
 clear hF hm ht hge F
 rintro m _ ⟨e,F,he,hml,hF,rfl⟩
 rcases m with _|i
 · have e1:e= -1:=by omega
   subst e1
   repeat' first|refine sV ⟨?_⟩|refine sq (λh=>⟨?_⟩) λh=>⟨?_⟩|fail
   refine .inl ⟨(fB_length _ _).symm,?_⟩
   repeat' first|refine sV ⟨?_⟩|refine sq (λh=>⟨?_⟩) λh=>⟨?_⟩|fail
   all_goals (conv=>whnf)
   exact ⟨_,aAf rfl rfl,congrArg (λz=>AV.tup [.ro 1 z,.int .i64 0]) (cHk λj hj=>by
    rw [Bool.eq_iff_iff,hNB,hF j hj,if_pos (Nat.zero_le _)])⟩
 have e1:e=(i:Int):=by omega
 subst e1
 have hil:i<l.length:=by omega
 obtain ⟨x,hx⟩:∃x,x=l[i]:=⟨_,rfl⟩
 have hgx:l[i]? =some x:=by rw [hx];exact hget i hil
 have g:(aAv l)[i]? =some x.cells:=by rw [hx];exact aB1 hil
 have hdp:=cFb GL x
 have hDn:=hpt1 hgx
 have hDu:=λj=>hus1 hgx j
 have hni:=hni hgx
 have hps:=λj=>@hps i j x hgx
 have hFi:F i=true↔PP (i+1) i:=by rw [hF i hil,if_neg (by omega)]
 have hlD:=rowZ_length (cEp x)
 have hD2:=cG0 x
 have g2:(fB l.length F)[0+i]? =some [.bool (F i)]:=by rw [Nat.zero_add];exact cFg hil
 have hloop:∀(D:List Int) (F0:Nat->Bool) (t:Nat) (k:Nat) (v:Bool),(∀ j,j<l.length->(F0 j=true↔(if i<=j then NP j else PP (i+1) j\/(NP i/\(j:Int)∈D.take t))))->k<i->(htD:t<D.length)->D[t]=(k:Int)->
  v=(F0 k || F0 i)->∀j,j<l.length->(cF1 F0 k v j=true↔(if i<=j then NP j else PP (i+1) j\/(NP i/\(j:Int)∈D.take (t+1)))):=λD F0 t k v h0 hki htD hk hv j hj=>by
  rw [List.take_succ_eq_append_getElem htD,hk]
  have hi2:=h0 i hil
  rw [if_pos (Nat.le_refl _)] at hi2
  have hk2:=h0 k (by omega)
  rw [if_neg (by omega)] at hk2
  by_cases hjk:j=k
  · subst hjk
    rw [cF0,if_neg (by omega),hv,Bool.or_eq_true,hk2,hi2]
    simp only [List.mem_append,List.mem_singleton]
    constructor
    · rintro ((h|⟨h,h'⟩)|h)
      · exact .inl h
      · exact .inr ⟨h,.inl h'⟩
      · exact .inr ⟨h,.inr trivial⟩
    · rintro (h|⟨h,h'⟩)
      · exact .inl (.inl h)
      · exact .inr h
  · rw [cGu _ _ hjk,h0 j hj]
    have:¬(j:Int)=(k:Int):=by omega
    simp only [List.mem_append,List.mem_singleton,this,or_false]
 obtain ⟨op,a,b,name,shape,k,n,data⟩:=x
 generalize cEp ⟨op,a,b,name,shape,k,n,data⟩=D at hdp hDn hDu hlD hD2
 dsimp only at hni
 cases hFb:F i
 · rw [hFb] at g2
   have e:(fB l.length F).set (0+i) [.bool (!decide (name=⟨#[]⟩))]=fB l.length (cF1 F i (!decide (name=⟨#[]⟩))):=by rw [Nat.zero_add,cE8]
   have hF0:∀j,j<l.length->(cF1 F i (!decide (name=⟨#[]⟩)) j=true↔(if i<=j then NP j else PP (i+1) j\/(NP i/\(j:Int)∈D.take 0))):=λj hj=>by
    by_cases hji:j=i
    · subst hji
      rw [cF0,if_pos (Nat.le_refl _)]
      rw [hFb] at hFi;simp only [Bool.not_eq_true',decide_eq_false_iff_not];rw [hni,<-hFi];simp
    · rw [cGu _ _ hji,hF j hj]
      by_cases hlt:i<=j
      · rw [if_pos hlt,if_pos (by omega)]
      · rw [if_neg hlt,if_neg (by omega)];simp
   repeat' first|refine sV ⟨?_⟩|refine sq (λh=>⟨?_⟩) λh=>⟨?_⟩|fail
   all_goals (refine ⟨[2,6,9,67,68,69],[0,1],λm st=>∃(t:Nat) (F:Nat->Bool),t<=D.length/\m=D.length - t/\(∀ j,j<l.length->(F j=true↔(if i<=j then NP j else PP (i+1) j\/(NP i/\(j:Int)∈D.take t))))/\
    st=⟨[(2,.bptr 0 0),(6,.own 1 0 l.length),(9,.int .i64 (i:Nat)),(67,.ro 1 (aAh D)),(68,.int .i64 ((aAh D).length:Nat)),(69,.int .i64 (t:Nat))],[.box 24 [.ro 8 (aAv l),.int .i64 (q:Nat)],.row false 4 1 (fB l.length F)]⟩,rfl,
    ⟨D.length,0,cF1 F i (!decide (name=⟨#[]⟩)),by omega,rfl,hF0,Eq.trans rfl (congrArg (λz=>(⟨[(2,.bptr 0 0),(6,.own 1 0 l.length),(9,.int .i64 (i:Nat)),(67,.ro 1 (aAh D)),(68,.int .i64 ((aAh D).length:Nat)),(69,.int .i64 ((0:Nat):Int))],[.box 24 [.ro 8 (aAv l),.int .i64 (q:Nat)],.row false 4 1 z]⟩:St)) e)⟩,?_⟩)
   clear hF0 e g2 hFb hFi hF F
   rintro m2 _ ⟨t,F,ht,hm2,hF,rfl⟩
   rcases Nat.lt_or_ge t D.length with htl|hge
   · obtain ⟨k,hk1,hk2⟩:=hDn _ (List.getElem_mem htl)
     have g1:(aAh D)[t]? =some [.int .i64 (k:Nat)]:=by rw [aE6 htl,hk1]
     have g3:(fB l.length F)[0+k]? =some [.bool (F k)]:=by rw [Nat.zero_add];exact cFg (by omega)
     have g4:(fB l.length F)[0+i]? =some [.bool (F i)]:=by rw [Nat.zero_add];exact cFg hil
     cases hFk:F k
     · rw [hFk] at g3
       have e:(fB l.length F).set (0+k) [.bool (F i)]=fB l.length (cF1 F k (F i)):=by rw [Nat.zero_add,cE8]
       have hF':=hloop D F t k (F i) hF hk2 htl hk1 (by rw [hFk];rfl)
       repeat' first|refine sV ⟨?_⟩|refine sq (λh=>⟨?_⟩) λh=>⟨?_⟩|fail
       exact ⟨[0,1],D.length - (t+1),rfl,by omega,t+1,_,by omega,rfl,hF',Eq.trans rfl (congrArg (λz=>(⟨[(2,.bptr 0 0),(6,.own 1 0 l.length),(9,.int .i64 (i:Nat)),(67,.ro 1 (aAh D)),(68,.int .i64 ((aAh D).length:Nat)),(69,.int .i64 ((t+1:Nat):Int))],[.box 24 [.ro 8 (aAv l),.int .i64 (q:Nat)],.row false 4 1 z]⟩:St)) e)⟩
     · rw [hFk] at g3
       have e:(fB l.length F).set (0+k) [.bool true]=fB l.length (cF1 F k true):=by rw [Nat.zero_add,cE8]
       have hF':=hloop D F t k true hF hk2 htl hk1 (by rw [hFk];rfl)
       repeat' first|refine sV ⟨?_⟩|refine sq (λh=>⟨?_⟩) λh=>⟨?_⟩|fail
       exact ⟨[0,1],D.length - (t+1),rfl,by omega,t+1,_,by omega,rfl,hF',Eq.trans rfl (congrArg (λz=>(⟨[(2,.bptr 0 0),(6,.own 1 0 l.length),(9,.int .i64 (i:Nat)),(67,.ro 1 (aAh D)),(68,.int .i64 ((aAh D).length:Nat)),(69,.int .i64 ((t+1:Nat):Int))],[.box 24 [.ro 8 (aAv l),.int .i64 (q:Nat)],.row false 4 1 z]⟩:St)) e)⟩
   rw [List.take_of_length_le (by omega)] at hF
   have hF':∀j,j<l.length->(F j=true↔(if i<=j then NP j else PP i j)):=λj hj=>by
    rw [hF j hj,hps j,hDu j]
   repeat' first|refine sV ⟨?_⟩|refine sq (λh=>⟨?_⟩) λh=>⟨?_⟩|fail
   exact ⟨[0,1],i,rfl,by omega,_,F,rfl,by omega,hF',rfl⟩
 · rw [hFb] at g2
   have e:(fB l.length F).set (0+i) [.bool true]=fB l.length (cF1 F i true):=by rw [Nat.zero_add,cE8]
   have hF0:∀j,j<l.length->(cF1 F i true j=true↔(if i<=j then NP j else PP (i+1) j\/(NP i/\(j:Int)∈D.take 0))):=λj hj=>by
    by_cases hji:j=i
    · subst hji
      rw [cF0,if_pos (Nat.le_refl _)]
      rw [hFb] at hFi;rw [hni,<-hFi];simp
    · rw [cGu _ _ hji,hF j hj]
      by_cases hlt:i<=j
      · rw [if_pos hlt,if_pos (by omega)]
      · rw [if_neg hlt,if_neg (by omega)];simp
   repeat' first|refine sV ⟨?_⟩|refine sq (λh=>⟨?_⟩) λh=>⟨?_⟩|fail
   all_goals (refine ⟨[2,6,9,67,68,69],[0,1],λm st=>∃(t:Nat) (F:Nat->Bool),t<=D.length/\m=D.length - t/\(∀ j,j<l.length->(F j=true↔(if i<=j then NP j else PP (i+1) j\/(NP i/\(j:Int)∈D.take t))))/\
    st=⟨[(2,.bptr 0 0),(6,.own 1 0 l.length),(9,.int .i64 (i:Nat)),(67,.ro 1 (aAh D)),(68,.int .i64 ((aAh D).length:Nat)),(69,.int .i64 (t:Nat))],[.box 24 [.ro 8 (aAv l),.int .i64 (q:Nat)],.row false 4 1 (fB l.length F)]⟩,rfl,
    ⟨D.length,0,cF1 F i true,by omega,rfl,hF0,Eq.trans rfl (congrArg (λz=>(⟨[(2,.bptr 0 0),(6,.own 1 0 l.length),(9,.int .i64 (i:Nat)),(67,.ro 1 (aAh D)),(68,.int .i64 ((aAh D).length:Nat)),(69,.int .i64 ((0:Nat):Int))],[.box 24 [.ro 8 (aAv l),.int .i64 (q:Nat)],.row false 4 1 z]⟩:St)) e)⟩,?_⟩)
   clear hF0 e g2 hFb hFi hF F
   rintro m2 _ ⟨t,F,ht,hm2,hF,rfl⟩
   rcases Nat.lt_or_ge t D.length with htl|hge
   · obtain ⟨k,hk1,hk2⟩:=hDn _ (List.getElem_mem htl)
     have g1:(aAh D)[t]? =some [.int .i64 (k:Nat)]:=by rw [aE6 htl,hk1]
     have g3:(fB l.length F)[0+k]? =some [.bool (F k)]:=by rw [Nat.zero_add];exact cFg (by omega)
     have g4:(fB l.length F)[0+i]? =some [.bool (F i)]:=by rw [Nat.zero_add];exact cFg hil
     cases hFk:F k
     · rw [hFk] at g3
       have e:(fB l.length F).set (0+k) [.bool (F i)]=fB l.length (cF1 F k (F i)):=by rw [Nat.zero_add,cE8]
       have hF':=hloop D F t k (F i) hF hk2 htl hk1 (by rw [hFk];rfl)
       repeat' first|refine sV ⟨?_⟩|refine sq (λh=>⟨?_⟩) λh=>⟨?_⟩|fail
       exact ⟨[0,1],D.length - (t+1),rfl,by omega,t+1,_,by omega,rfl,hF',Eq.trans rfl (congrArg (λz=>(⟨[(2,.bptr 0 0),(6,.own 1 0 l.length),(9,.int .i64 (i:Nat)),(67,.ro 1 (aAh D)),(68,.int .i64 ((aAh D).length:Nat)),(69,.int .i64 ((t+1:Nat):Int))],[.box 24 [.ro 8 (aAv l),.int .i64 (q:Nat)],.row false 4 1 z]⟩:St)) e)⟩
     · rw [hFk] at g3
       have e:(fB l.length F).set (0+k) [.bool true]=fB l.length (cF1 F k true):=by rw [Nat.zero_add,cE8]
       have hF':=hloop D F t k true hF hk2 htl hk1 (by rw [hFk];rfl)
       repeat' first|refine sV ⟨?_⟩|refine sq (λh=>⟨?_⟩) λh=>⟨?_⟩|fail
       exact ⟨[0,1],D.length - (t+1),rfl,by omega,t+1,_,by omega,rfl,hF',Eq.trans rfl (congrArg (λz=>(⟨[(2,.bptr 0 0),(6,.own 1 0 l.length),(9,.int .i64 (i:Nat)),(67,.ro 1 (aAh D)),(68,.int .i64 ((aAh D).length:Nat)),(69,.int .i64 ((t+1:Nat):Int))],[.box 24 [.ro 8 (aAv l),.int .i64 (q:Nat)],.row false 4 1 z]⟩:St)) e)⟩
   rw [List.take_of_length_le (by omega)] at hF
   have hF':∀j,j<l.length->(F j=true↔(if i<=j then NP j else PP i j)):=λj hj=>by
    rw [hF j hj,hps j,hDu j]
   repeat' first|refine sV ⟨?_⟩|refine sq (λh=>⟨?_⟩) λh=>⟨?_⟩|fail
   exact ⟨[0,1],i,rfl,by omega,_,F,rfl,by omega,hF',rfl⟩
end Go.V
namespace Go.V
open Go.N Go.Proofs
set_option maxRecDepth 20000
def cHd:Tab:=[(24,i24),(27,i27),(3,i3),(28,i28),(22,i22),(34,i34),(98,i98),(4,i4)]
theorem cGb:TOK Tryz.prog cHd:=⟨K24,⟨K27,⟨K3,⟨K28,⟨K22,⟨K34,⟨K98,⟨K4,trivial⟩⟩⟩⟩⟩⟩⟩⟩
def atZ (pl:List Int) (a:Int):Int:=pl.getD a.toNat 0
theorem cEs {pl:List Int}{k:Nat}(h:k<pl.length):atZ pl k=pl[k]:=by simp [atZ,h]
def reN (pl:List Int) (x:Nd):Nd:=match aBh x.op with|some 1=>{ x with a:=atZ pl x.a}|some 2=>{ x with a:=atZ pl x.a,b:=atZ pl x.b}|_=>x
theorem dP0 {x:Nd}(h:aBh x.op=some 0):cEp x=[]:=by rw [cEp,h];rfl
theorem dP1 {x:Nd}(h:aBh x.op=some 1):cEp x=[x.a]:=by rw [cEp,h];rfl
theorem dP2 {x:Nd}(h:aBh x.op=some 2):cEp x=[x.a,x.b]:=by rw [cEp,h];rfl
theorem re0 {x:Nd}{pl:List Int}(h:aBh x.op=some 0):reN pl x=x:=by rw [reN,h];rfl
theorem re1 {x:Nd}{pl:List Int}(h:aBh x.op=some 1):reN pl x={ x with a:=atZ pl x.a}:=by rw [reN,h];rfl
theorem re2 {x:Nd}{pl:List Int}(h:aBh x.op=some 2):reN pl x={ x with a:=atZ pl x.a,b:=atZ pl x.b}:=by rw [reN,h];rfl
def cEm (l:List Nd) (N:Nat->Bool):Nat->List Int×List Nd
 |0=>([],[])
 |i+1=>match l[i]? with
  |none=>cEm l N i
  |some x=>if N i=true then ((cEm l N i).1++[((cEm l N i).2.length:Int)],(cEm l N i).2++[reN (cEm l N i).1 x]) else ((cEm l N i).1++[-1],(cEm l N i).2)
theorem cEn {l:List Nd}{N:Nat->Bool}{i:Nat}{pl:List Int}{out:List Nd}{x:Nd}(h:cEm l N i=(pl,out)) (hx:l[i]? =some x) (hN:N i=true):cEm l N (i+1)=(pl++[(out.length:Int)],out++[reN pl x]):=by
 simp only [cEm,hx,h,hN,if_true]
theorem cEw {l:List Nd}{N:Nat->Bool}{i:Nat}{pl:List Int}{out:List Nd}{x:Nd}(h:cEm l N i=(pl,out)) (hx:l[i]? =some x) (hN:N i=false):cEm l N (i+1)=(pl++[-1],out):=by
 simp [cEm,hx,h,hN]
theorem cEt {l:List Nd}{N:Nat->Bool}:∀{i:Nat},i<=l.length->(cEm l N i).1.length=i/\(cEm l N i).2.length<=i
 |0,_=>⟨rfl,Nat.le_refl _⟩
 |i+1,h=>by
  have ih:=cEt (l:=l) (N:=N) (i:=i) (by omega)
  have hx:l[i]? =some l[i]:=List.getElem?_eq_getElem (by omega)
  cases hN:N i with
  |true=>rw [cEn (Prod.eta _).symm hx hN];simp;omega
  |false=>rw [cEw (Prod.eta _).symm hx hN];simp;omega
def cEz (g:Gr) (N:Nat->Bool):Gr×List Int:=(⟨(cEm g.nodes N g.nodes.length).2,atZ (cEm g.nodes N g.nodes.length).1 g.loss⟩,(cEm g.nodes N g.nodes.length).1)
theorem cEr (pl:List Int) (v:Int):aAh (pl++[v])=(aAh pl).take (aAh pl).length++[[.int .i64 v]]:=by rw [List.take_length];simp [aAh]
theorem cFy (l:List Nd) (x:Nd){c:List AV}(h:c=x.cells):aAv (l++[x])=(aAv l).take (aAv l).length++[c]:=by rw [List.take_length,h];simp [aAv]
set_option maxHeartbeats 8000000 in
theorem cGg (g:Gr) (keep:List Int) (hs:∀x∈g.nodes,x.Sm) (hl:g.nodes.length<=1000) (hk:keep.length<=1000):
 aAc Tryz.prog GL 66 [.agg g.cells,.ro 1 (aAh keep)]
  (λy=>y=if cEu g keep=true then .tup [.agg (cEz g (NB g keep)).1.cells,.ro 1 (aAh (cEz g (NB g keep)).2),.int .i64 0] else .tup [.agg [.ro 8 [],.int .i64 0],.ro 1 [],.int .i64 1]):=by
 have hnd:=cG7 g keep hs hl hk
 refine aAc.taken ?_
 cases hok:cEu g keep
 · rw [hok,if_neg (by simp)] at hnd
   rw [if_neg (by simp)]
   refine vgo cGb Tryz.func66 ?_
   repeat' first|refine sV ⟨?_⟩|refine sq (λh=>⟨?_⟩) λh=>⟨?_⟩|fail
   all_goals (conv=>whnf)
   exact ⟨_,cHx (aFo (show aC7 .nils (.ro 8 []) from ⟨8,rfl⟩) rfl) (show aC7 .nils (.ro 1 []) from ⟨1,rfl⟩) rfl,rfl⟩
 rw [hok,if_pos rfl] at hnd
 rw [if_pos rfl]
 have hg:aC1 g=true:=by simp only [cEu,Bool.and_eq_true] at hok;exact hok.1
 obtain ⟨h1,h2,q,hq1,hq⟩:=aMd hg
 have hpt:=λ{i:Nat} {x:Nd}=>@cE1 g hg i x
 have hfit:=λ{i:Nat} {x:Nd}=>@cGn g hg i x
 have hget:∀i (h:i<g.nodes.length),g.nodes[i]? =some g.nodes[i]:=λi h=>List.getElem?_eq_getElem h
 generalize NB g keep=N at hnd ⊢
 clear hok hg
 obtain ⟨l,p⟩:=g
 dsimp only at hs hl hnd h1 h2 hq1 hq hpt hfit hget
 subst hq1
 show aAc _ _ _ [.agg [.ro 8 (aAv l),.int .i64 (q:Nat)],_] _
 have hlr:=rowN_length l
 have hfin:∀pl out,cEm l N l.length=(pl,out)->cEz ⟨l,(q:Int)⟩ N=(⟨out,atZ pl q⟩,pl):=λpl out h=>by simp only [cEz,h]
 generalize cEz ⟨l,(q:Int)⟩ N=G at hfin ⊢
 refine vgo cGb Tryz.func66 ?_
 repeat' first|refine sV ⟨?_⟩|refine sq (λh=>⟨?_⟩) λh=>⟨?_⟩|fail
 refine ⟨[2,4,7,9,10,25,26,27],[0,1,2],λm st=>∃(i:Nat) (pl:List Int) (out:List Nd),i<=l.length/\m=l.length - i/\cEm l N i=(pl,out)/\
  (i=0/\st=⟨[(2,.bptr 0 0),(4,.bptr 1 0),(7,.ro 1 (fB l.length N)),(9,.bptr 2 0),(10,.nils),(25,.ro 8 (aAv l)),(26,.int .i64 ((aAv l).length:Nat)),(27,.int .i64 (i:Nat))],[.box 24 [.ro 8 (aAv l),.int .i64 (q:Nat)],.box 24 [.nils,.int .i64 0],.box 24 [.nils,.int .i64 0]]⟩\/(0<i/\out=[]/\st=⟨[(2,.bptr 0 0),(4,.bptr 1 0),(7,.ro 1 (fB l.length N)),(9,.bptr 2 0),(10,.own 3 0 (aAh pl).length),(25,.ro 8 (aAv l)),(26,.int .i64 ((aAv l).length:Nat)),(27,.int .i64 (i:Nat))],[.box 24 [.ro 8 (aAv l),.int .i64 (q:Nat)],.box 24 [.nils,.int .i64 0],.box 24 [.nils,.int .i64 0],.row false 3 1 (aAh pl)]⟩)\/(0<i/\st=⟨[(2,.bptr 0 0),(4,.bptr 1 0),(7,.ro 1 (fB l.length N)),(9,.bptr 2 0),(10,.own 3 0 (aAh pl).length),(25,.ro 8 (aAv l)),(26,.int .i64 ((aAv l).length:Nat)),(27,.int .i64 (i:Nat))],[.box 24 [.ro 8 (aAv l),.int .i64 (q:Nat)],.box 24 [.nils,.int .i64 0],.box 24 [.own 4 0 (aAv out).length,.int .i64 0],.row false 3 1 (aAh pl),.row false 34 8 (aAv out)]⟩)),rfl,⟨l.length,0,[],[],by omega,rfl,rfl,.inl ⟨rfl,rfl⟩⟩,?_⟩
 rintro m _ ⟨i,pl,out,hi,hm,hpr,hst⟩
 have hlen:=cEt (l:=l) (N:=N) hi
 rw [hpr] at hlen
 dsimp only at hlen
 have hpl:=rowZ_length pl
 have hol:=rowN_length out
 rcases Nat.lt_or_ge i l.length with hil|hge
 · obtain ⟨x,hx⟩:∃x,x=l[i]:=⟨_,rfl⟩
   have hgx:l[i]? =some x:=by rw [hx];exact hget i hil
   have g:(aAv l)[i]? =some x.cells:=by rw [hx];exact aB1 hil
   have g1:(fB l.length N)[i]? =some [.bool (N i)]:=cFg hil
   clear hx
   cases hN:N i
   · have hnx:=cEw hpr hgx hN
     rw [hN] at g1
     obtain ⟨op,a,b,name,shape,k,n,data⟩:=x
     rcases hst with ⟨rfl,rfl⟩|⟨h0,rfl,rfl⟩|⟨h0,rfl⟩
     · obtain ⟨rfl,rfl⟩:pl=[]/\out=[]:=by cases hpr;exact ⟨rfl,rfl⟩
       repeat' first|refine sV ⟨?_⟩|refine sq (λh=>⟨?_⟩) λh=>⟨?_⟩|fail
       conv=>whnf
       refine ⟨Nat.le_of_ble_eq_true rfl,λh=>Nat.succ_ne_zero _ (congrArg List.length h),?_⟩
       repeat' first|refine sV ⟨?_⟩|refine sq (λh=>⟨?_⟩) λh=>⟨?_⟩|fail
       exact ⟨[0,1,2,5],l.length - (0+1),rfl,by omega,0+1,_,_,by omega,rfl,hnx,.inr (.inl ⟨by omega,rfl,rfl⟩)⟩
     · repeat' first|refine sV ⟨?_⟩|refine sq (λh=>⟨?_⟩) λh=>⟨?_⟩|fail
       refine ⟨Nat.le_refl _,(show ((aAh pl).length+1)*8<=140737488355328 by omega),_,cEr pl _,?_⟩
       repeat' first|refine sV ⟨?_⟩|refine sq (λh=>⟨?_⟩) λh=>⟨?_⟩|fail
       exact ⟨[0,1,2,6],l.length - (i+1),rfl,by omega,i+1,_,_,by omega,rfl,hnx,.inr (.inl ⟨by omega,rfl,rfl⟩)⟩
     · repeat' first|refine sV ⟨?_⟩|refine sq (λh=>⟨?_⟩) λh=>⟨?_⟩|fail
       refine ⟨Nat.le_refl _,(show ((aAh pl).length+1)*8<=140737488355328 by omega),_,cEr pl _,?_⟩
       repeat' first|refine sV ⟨?_⟩|refine sq (λh=>⟨?_⟩) λh=>⟨?_⟩|fail
       exact ⟨[0,1,2,7,4],l.length - (i+1),rfl,by omega,i+1,_,_,by omega,rfl,hnx,.inr (.inr ⟨by omega,rfl⟩)⟩
   · have hnx:=cEn hpr hgx hN
     rw [hN] at g1
     rcases hst with ⟨rfl,rfl⟩|⟨h0,rfl,rfl⟩|⟨h0,rfl⟩
     · obtain ⟨rfl,rfl⟩:pl=[]/\out=[]:=by cases hpr;exact ⟨rfl,rfl⟩
       obtain ⟨m0,hop,F⟩:=hfit hgx
       have hm2:=aNi hop
       have hDn:=hpt hgx
       have hdp:=cFb GL x
       obtain ⟨op,a,b,name,shape,k,n,data⟩:=x
       have h3:m0=0\/m0=1\/m0=2:=by omega
       rcases h3 with rfl|rfl|rfl
       · rw [dP0 hop] at hdp
         rw [re0 hop] at hnx
         repeat' first|refine sV ⟨?_⟩|refine sq (λh=>⟨?_⟩) λh=>⟨?_⟩|fail
         conv=>whnf
         refine ⟨Nat.le_of_ble_eq_true rfl,λh=>Nat.succ_ne_zero _ (congrArg List.length h),?_⟩
         repeat' first|refine sV ⟨?_⟩|refine sq (λh=>⟨?_⟩) λh=>⟨?_⟩|fail
         conv=>whnf
         refine ⟨Nat.le_of_ble_eq_true rfl,λh=>Nat.succ_ne_zero _ (congrArg List.length h),?_⟩
         repeat' first|refine sV ⟨?_⟩|refine sq (λh=>⟨?_⟩) λh=>⟨?_⟩|fail
         exact ⟨[0,1,2,5,7],l.length - (0+1),rfl,by omega,0+1,_,[⟨op,a,b,name,shape,k,n,data⟩],by omega,rfl,hnx,.inr (.inr ⟨by omega,rfl⟩)⟩
       · obtain ⟨u,_,hu⟩:=hDn a (by rw [dP1 hop];simp)
         omega
       · obtain ⟨u,_,hu⟩:=hDn a (by rw [dP2 hop];simp)
         omega
     · obtain ⟨m0,hop,F⟩:=hfit hgx
       have hm2:=aNi hop
       have h3:m0=0\/m0=1\/m0=2:=by omega
       have hDn:=hpt hgx
       have hdp:=cFb GL x
       obtain ⟨op,a,b,name,shape,k,n,data⟩:=x
       rcases h3 with rfl|rfl|rfl
       · rw [dP0 hop] at hdp
         rw [re0 hop] at hnx
         repeat' first|refine sV ⟨?_⟩|refine sq (λh=>⟨?_⟩) λh=>⟨?_⟩|fail
         refine ⟨Nat.le_refl _,(show ((aAh pl).length+1)*8<=140737488355328 by omega),_,cEr pl _,?_⟩
         repeat' first|refine sV ⟨?_⟩|refine sq (λh=>⟨?_⟩) λh=>⟨?_⟩|fail
         conv=>whnf
         refine ⟨Nat.le_of_ble_eq_true rfl,λh=>Nat.succ_ne_zero _ (congrArg List.length h),?_⟩
         repeat' first|refine sV ⟨?_⟩|refine sq (λh=>⟨?_⟩) λh=>⟨?_⟩|fail
         exact ⟨[0,1,2,6,8],l.length - (i+1),rfl,by omega,i+1,_,[⟨op,a,b,name,shape,k,n,data⟩],by omega,rfl,hnx,.inr (.inr ⟨by omega,rfl⟩)⟩
       · rw [dP1 hop] at hdp hDn
         rw [re1 hop] at hnx
         dsimp only at hdp hnx hDn
         obtain ⟨u,rfl,hu⟩:∃u:Nat,a=u/\u<i:=hDn a (by simp)
         have gu:(aAh pl)[0+u]? =some [.int .i64 (atZ pl u)]:=by rw [Nat.zero_add,aE6 (by omega),cEs (by omega)]
         repeat' first|refine sV ⟨?_⟩|refine sq (λh=>⟨?_⟩) λh=>⟨?_⟩|fail
         refine ⟨Nat.le_refl _,(show ((aAh pl).length+1)*8<=140737488355328 by omega),_,cEr pl _,?_⟩
         repeat' first|refine sV ⟨?_⟩|refine sq (λh=>⟨?_⟩) λh=>⟨?_⟩|fail
         conv=>whnf
         refine ⟨Nat.le_of_ble_eq_true rfl,λh=>Nat.succ_ne_zero _ (congrArg List.length h),?_⟩
         repeat' first|refine sV ⟨?_⟩|refine sq (λh=>⟨?_⟩) λh=>⟨?_⟩|fail
         exact ⟨[0,1,2,6,8],l.length - (i+1),rfl,by omega,i+1,_,[⟨op,atZ pl u,b,name,shape,k,n,data⟩],by omega,rfl,hnx,.inr (.inr ⟨by omega,rfl⟩)⟩
       · rw [dP2 hop] at hdp hDn
         rw [re2 hop] at hnx
         dsimp only at hdp hnx hDn
         obtain ⟨u,rfl,hu⟩:∃u:Nat,a=u/\u<i:=hDn a (by simp)
         obtain ⟨v,rfl,hv⟩:∃u:Nat,b=u/\u<i:=hDn b (by simp)
         have gu:(aAh pl)[0+u]? =some [.int .i64 (atZ pl u)]:=by rw [Nat.zero_add,aE6 (by omega),cEs (by omega)]
         have gv:(aAh pl)[0+v]? =some [.int .i64 (atZ pl v)]:=by rw [Nat.zero_add,aE6 (by omega),cEs (by omega)]
         repeat' first|refine sV ⟨?_⟩|refine sq (λh=>⟨?_⟩) λh=>⟨?_⟩|fail
         refine ⟨Nat.le_refl _,(show ((aAh pl).length+1)*8<=140737488355328 by omega),_,cEr pl _,?_⟩
         repeat' first|refine sV ⟨?_⟩|refine sq (λh=>⟨?_⟩) λh=>⟨?_⟩|fail
         conv=>whnf
         refine ⟨Nat.le_of_ble_eq_true rfl,λh=>Nat.succ_ne_zero _ (congrArg List.length h),?_⟩
         repeat' first|refine sV ⟨?_⟩|refine sq (λh=>⟨?_⟩) λh=>⟨?_⟩|fail
         exact ⟨[0,1,2,6,8],l.length - (i+1),rfl,by omega,i+1,_,[⟨op,atZ pl u,atZ pl v,name,shape,k,n,data⟩],by omega,rfl,hnx,.inr (.inr ⟨by omega,rfl⟩)⟩
     · rw [show out.length=(aAv out).length from (rowN_length out).symm] at hnx
       obtain ⟨m0,hop,F⟩:=hfit hgx
       have hm2:=aNi hop
       have h3:m0=0\/m0=1\/m0=2:=by omega
       have hDn:=hpt hgx
       have hdp:=cFb GL x
       obtain ⟨op,a,b,name,shape,k,n,data⟩:=x
       rcases h3 with rfl|rfl|rfl
       · rw [dP0 hop] at hdp
         rw [re0 hop] at hnx
         repeat' first|refine sV ⟨?_⟩|refine sq (λh=>⟨?_⟩) λh=>⟨?_⟩|fail
         refine ⟨Nat.le_refl _,(show ((aAh pl).length+1)*8<=140737488355328 by omega),_,cEr pl _,?_⟩
         repeat' first|refine sV ⟨?_⟩|refine sq (λh=>⟨?_⟩) λh=>⟨?_⟩|fail
         refine ⟨Nat.le_refl _,(show ((aAv out).length+1)*120<=140737488355328 by omega),_,cFy out ⟨op,a,b,name,shape,k,n,data⟩ rfl,?_⟩
         repeat' first|refine sV ⟨?_⟩|refine sq (λh=>⟨?_⟩) λh=>⟨?_⟩|fail
         exact ⟨[0,1,2,7,9],l.length - (i+1),rfl,by omega,i+1,_,_,by omega,rfl,hnx,.inr (.inr ⟨by omega,rfl⟩)⟩
       · rw [dP1 hop] at hdp hDn
         rw [re1 hop] at hnx
         dsimp only at hdp hnx hDn
         obtain ⟨u,rfl,hu⟩:∃u:Nat,a=u/\u<i:=hDn a (by simp)
         have gu:(aAh pl)[0+u]? =some [.int .i64 (atZ pl u)]:=by rw [Nat.zero_add,aE6 (by omega),cEs (by omega)]
         repeat' first|refine sV ⟨?_⟩|refine sq (λh=>⟨?_⟩) λh=>⟨?_⟩|fail
         refine ⟨Nat.le_refl _,(show ((aAh pl).length+1)*8<=140737488355328 by omega),_,cEr pl _,?_⟩
         repeat' first|refine sV ⟨?_⟩|refine sq (λh=>⟨?_⟩) λh=>⟨?_⟩|fail
         refine ⟨Nat.le_refl _,(show ((aAv out).length+1)*120<=140737488355328 by omega),_,cFy out ⟨op,atZ pl u,b,name,shape,k,n,data⟩ rfl,?_⟩
         repeat' first|refine sV ⟨?_⟩|refine sq (λh=>⟨?_⟩) λh=>⟨?_⟩|fail
         exact ⟨[0,1,2,7,9],l.length - (i+1),rfl,by omega,i+1,_,_,by omega,rfl,hnx,.inr (.inr ⟨by omega,rfl⟩)⟩
       · rw [dP2 hop] at hdp hDn
         rw [re2 hop] at hnx
         dsimp only at hdp hnx hDn
         obtain ⟨u,rfl,hu⟩:∃u:Nat,a=u/\u<i:=hDn a (by simp)
         obtain ⟨v,rfl,hv⟩:∃u:Nat,b=u/\u<i:=hDn b (by simp)
         have gu:(aAh pl)[0+u]? =some [.int .i64 (atZ pl u)]:=by rw [Nat.zero_add,aE6 (by omega),cEs (by omega)]
         have gv:(aAh pl)[0+v]? =some [.int .i64 (atZ pl v)]:=by rw [Nat.zero_add,aE6 (by omega),cEs (by omega)]
         repeat' first|refine sV ⟨?_⟩|refine sq (λh=>⟨?_⟩) λh=>⟨?_⟩|fail
         refine ⟨Nat.le_refl _,(show ((aAh pl).length+1)*8<=140737488355328 by omega),_,cEr pl _,?_⟩
         repeat' first|refine sV ⟨?_⟩|refine sq (λh=>⟨?_⟩) λh=>⟨?_⟩|fail
         refine ⟨Nat.le_refl _,(show ((aAv out).length+1)*120<=140737488355328 by omega),_,cFy out ⟨op,atZ pl u,atZ pl v,name,shape,k,n,data⟩ rfl,?_⟩
         repeat' first|refine sV ⟨?_⟩|refine sq (λh=>⟨?_⟩) λh=>⟨?_⟩|fail
         exact ⟨[0,1,2,7,9],l.length - (i+1),rfl,by omega,i+1,_,_,by omega,rfl,hnx,.inr (.inr ⟨by omega,rfl⟩)⟩
 · have hi2:i=l.length:=by omega
   subst hi2
   have hG:=hfin pl out hpr
   have gq:(aAh pl)[0+q]? =some [.int .i64 (atZ pl q)]:=by rw [Nat.zero_add,aE6 (by omega),cEs (by omega)]
   rcases hst with ⟨h0,rfl⟩|⟨h0,rfl,rfl⟩|⟨h0,rfl⟩
   · omega
   · repeat' first|refine sV ⟨?_⟩|refine sq (λh=>⟨?_⟩) λh=>⟨?_⟩|fail
     all_goals (conv=>whnf)
     exact ⟨_,cHx (aFo (show aC7 .nils (.ro 8 []) from ⟨8,rfl⟩) rfl) rfl rfl,by rw [hG];rfl⟩
   · repeat' first|refine sV ⟨?_⟩|refine sq (λh=>⟨?_⟩) λh=>⟨?_⟩|fail
     all_goals (conv=>whnf)
     exact ⟨_,cHx (aFo rfl rfl) rfl rfl,by rw [hG];rfl⟩
end Go.V
namespace Go.V
open Go.N Go.Proofs
set_option maxRecDepth 20000
variable (gl:Gl)
end Go.V
namespace Go.V
open Go.N Go.Proofs
set_option maxRecDepth 20000
variable (gl:Gl)
end Go.V
namespace Go.V
open Go.N Go.Proofs
set_option maxRecDepth 20000
def ndA (op name:ByteArray):List AV:=[.str op,.int .i64 0,.int .i64 0,.str name,.nils,.str ⟨#[]⟩,.int .i64 0,.nils]
theorem cG8 (op name:ByteArray):aLg (ndA op name) (Nd.cells ⟨op,0,0,name,[],⟨#[]⟩,0,[]⟩):=
 ⟨_,_,rfl,rfl,_,_,rfl,rfl,_,_,rfl,rfl,_,_,rfl,rfl,_,_,rfl,.inr ⟨1,rfl⟩,_,_,rfl,rfl,_,_,rfl,rfl,_,_,rfl,.inr ⟨1,rfl⟩,rfl⟩
def nd0 (op name:ByteArray):Nd:=⟨op,0,0,name,[],⟨#[]⟩,0,[]⟩
theorem cH1 {pl:List Int}{x:Nd}(h:x.Sm):(reN pl x).Sm:=by
 unfold reN
 split
 · exact ⟨h.name,h.k,h.shape,h.data,h.each⟩
 · exact ⟨h.name,h.k,h.shape,h.data,h.each⟩
 · exact h
theorem cGx {l:List Nd}{N:Nat->Bool}(hs:∀x∈l,x.Sm):∀i,∀x∈(cEm l N i).2,x.Sm
 |0,x,hx=>by simp [cEm] at hx
 |i+1,x,hx=>by
  have ih:=cGx (N:=N) hs i
  unfold cEm at hx
  split at hx
  · exact ih x hx
  · rename_i y hy
    split at hx
    · simp only [List.mem_append,List.mem_singleton] at hx
      rcases hx with hx|rfl
      · exact ih x hx
      · exact cH1 (hs y (List.mem_of_getElem? hy))
    · exact ih x hx
end Go.V
namespace Go.V
open Go.RowKit
section
variable {H:Type}(enc:TypeId×Value->H) (P:Program) (w:World)
abbrev SW (w:World):Nat->Prop:=λb=>b<w.heap.size
def aSk (t:TypeId) (n:Nat) (K:List AV->Prop):Prop:=∀(fuel:Nat) (cs:List Value) (x:DataW H×List MemPlace),DataW.trod enc P w 0 (λ_=>true) true fuel t cs=some x->
 ∃xs,K xs/\cs.length=n/\One cs/\aAt (SW w) H0 w xs cs
variable {enc P w}
theorem bOb {t:TypeId}{k:IntKind}(ht:P.underlying t=some (.int k)):aSk enc P w t 1 (λxs=>∃n,xs=[.int k n]):=λfuel cs x h=>by
 obtain ⟨n,rfl,_,_⟩:=DataW.trod_int ht h
 exact ⟨_,⟨n,rfl⟩,rfl,by simp [One,Value.oneCell'],by simp [aAt,aAi]⟩
theorem aUm {t:TypeId}(ht:P.underlying t=some .string):aSk enc P w t 1 (λxs=>∃s,xs=[.str s]):=λfuel cs x h=>by
 obtain ⟨s,rfl,_,_⟩:=DataW.trod_string ht h
 exact ⟨_,⟨s,rfl⟩,rfl,by simp [One,Value.oneCell'],by simp [aAt,aAi]⟩
theorem aQg {α:Type}{Q:Nat->α->Prop}:∀n:Nat,(∀ i,i<n->∃a,Q i a)->∃l:List α,l.length=n/\∀i (h:i<l.length),Q i l[i]
 |0,_=>⟨[],rfl,λi h=>by simp at h⟩
 |n+1,hq=>by
  obtain ⟨l,hl,h⟩:=aQg n λi hi=>hq i (by omega)
  obtain ⟨a,ha⟩:=hq n (by omega)
  refine ⟨l++[a],by simp [hl],λi hi=>?_⟩
  by_cases hin:i<l.length
  · rw [List.getElem_append_left hin];exact h i hin
  · have:i=n:=by simp at hi;omega
    subst this
    rw [List.getElem_append_right (by omega)]
    simpa using ha
theorem bGd {S:Nat->Prop}:∀{es:List (List AV)}{vss:List (List Value)},es.length=vss.length->(∀ i (h1:i<es.length) (h2:i<vss.length),aAt S H0 w es[i] vss[i])->aAr S w es vss
 |[],[],_,_=>by simp [aAr]
 |[],_::_,h,_=>by simp at h
 |_::_,[],h,_=>by simp at h
 |e::es,v::vss,h,hr=>by
  simp only [aAr]
  exact ⟨v,vss,rfl,hr 0 (by simp) (by simp),bGd (by simpa using h) λi h1 h2=>hr (i+1) (by simpa using h1) (by simpa using h2)⟩
theorem aMf {t e:TypeId}{n:Nat}{K:List AV->Prop}(ht:P.underlying t=some (.slice e)) (hc:P.cellsOf e=n) (hn:0<n) (he:aSk enc P w e n K):
 aSk enc P w t 1 (λxs=>∃es,xs=[.ro n es]/\∀c∈es,K c):=λfuel cs x h=>by
 rcases DataW.trod_slice ht h with ⟨rfl,_⟩|⟨a,len,cap,elems,rest,m,_,rfl,_,_,hl,hm,hlen,hel,_⟩
 · refine ⟨_,⟨[],rfl,by simp⟩,rfl,by simp [One,Value.oneCell'],?_⟩
   simp [aAt,aAi]
   exact ⟨none,0,⟨rfl,rfl⟩,Nat.zero_le _⟩
 · rw [hc] at hel
   obtain ⟨l,hll,hq⟩:=aQg (Q:=λi (p:List AV×List Value)=>K p.1/\w.cells? 0 (a.add (i*n)) n=some p.2/\p.2.length=n/\One p.2/\aAt (SW w) H0 w p.1 p.2) len λi hi=>by
    have hi2:=hel i hi
    rw [List.getElem?_eq_getElem (by omega)] at hi2
    obtain ⟨vs,h1,h2⟩:=Option.bind_eq_some_iff.1 hi2
    obtain ⟨xs,k1,k2,k3,k4⟩:=he _ _ _ h2
    exact ⟨(xs,vs),k1,h1,k2,k3,k4⟩
   refine ⟨_,⟨l.map (·.1),rfl,λc hc=>?_⟩,rfl,by simp [One,Value.oneCell'],?_⟩
   · obtain ⟨p,hp,rfl⟩:=List.mem_map.1 hc
     obtain ⟨i,hi,rfl⟩:=List.getElem_of_mem hp
     exact (hq i hi).1
   · simp only [aAt,aAi]
     refine ⟨_,_,rfl,⟨_,_,by rw [List.length_map,hll],by rw [List.length_map,hll];exact hl,hm,?_⟩,rfl⟩
     rcases Nat.eq_zero_or_pos len with h0|h0
     · left;exact List.length_eq_zero_iff.1 (by rw [List.length_map,hll,h0])
     · have hb:a.block<w.heap.size:=by
        have:=World.cells?_block (hq 0 (by omega)).2.1 hn
        simpa [Addr.add] using this
       refine .inr ⟨a,rfl,hb,hb,l.map (·.2),bGd (by simp) λi h1 h2=>?_,λvs hv=>?_,λi vs hv k u hk=>?_⟩
       · simp only [List.getElem_map]
         exact (hq i (by simpa using h1)).2.2.2.2
       · obtain ⟨p,hp,rfl⟩:=List.mem_map.1 hv
         obtain ⟨i,hi,rfl⟩:=List.getElem_of_mem hp
         exact ⟨(hq i hi).2.2.1,(hq i hi).2.2.2.1⟩
       · rw [List.getElem?_map] at hv
         obtain ⟨p,hp,rfl⟩:=Option.map_eq_some_iff.1 hv
         obtain ⟨hi,rfl⟩:=List.getElem?_eq_some_iff.1 hp
         have h1:=(hq i hi).2.1
         have hk2:=(List.getElem?_eq_some_iff.1 hk).1
         have hlen2:=(hq i hi).2.2.1
         have:=(World.cells?_some h1).2.2 k (by omega)
         rw [Addr.add_add] at this
         rw [this,hk]
def bYc:List Field->Nat->List (AV->Prop)->Prop
 |[],_,Ks=>Ks=[]
 |f::fs,i,Ks=>∃K Kr,Ks=K::Kr/\f.offset=i/\P.cellsOf f.type=1/\aSk enc P w f.type 1 (λxs=>∃a,xs=[a]/\K a)/\bYc fs (i+1) Kr
theorem aSk.mono {t:TypeId}{n:Nat}{K K':List AV->Prop}(h:aSk enc P w t n K) (hk:∀xs,K xs->K' xs):aSk enc P w t n K':=λfuel cs x hx=>by
 obtain ⟨xs,k,r⟩:=h fuel cs x hx
 exact ⟨xs,hk xs k,r⟩
def bX5:List (AV->Prop)->List AV->Prop
 |[],xs=>xs=[]
 |K::Ks,xs=>∃x r,xs=x::r/\K x/\bX5 Ks r
theorem aUl:∀(fs:List Field) (i:Nat) (Ks:List (AV->Prop)) (cs:List Value),bYc (enc:=enc) (P:=P) (w:=w) fs i Ks->cs.length=i+fs.length->
 (∀ f∈fs,∃m y,DataW.trod enc P w 0 (λ_=>true) true m f.type ((cs.drop f.offset).take (P.cellsOf f.type))=some y)->∃xs,bX5 Ks xs/\One (cs.drop i)/\aAt (SW w) H0 w xs (cs.drop i)
 |[],i,Ks,cs,hf,hl,_=>by
  simp only [bYc] at hf
  subst hf
  have:cs.drop i=[]:=List.drop_of_length_le (by simp at hl;omega)
  rw [this]
  exact ⟨[],rfl,by simp [One],by simp [aAt]⟩
 |f::fs,i,Ks,cs,hf,hl,ht=>by
  simp only [bYc] at hf
  obtain ⟨K,Kr,rfl,h1,h2,h3,h4⟩:=hf
  have hi:i<cs.length:=by simp at hl;omega
  obtain ⟨xs,a1,a2,a3⟩:=aUl fs (i+1) Kr cs h4 (by simp at hl;omega) (λg hg=>ht g (List.mem_cons_of_mem _ hg))
  obtain ⟨m,y,hy⟩:=ht f List.mem_cons_self
  have e:cs.drop i=cs[i]::cs.drop (i+1):=List.drop_eq_getElem_cons hi
  rw [h1,h2,e] at hy
  obtain ⟨zs,⟨a,rfl,ha⟩,_,k2,k3⟩:=h3 _ _ _ hy
  simp only [List.take_succ_cons,List.take_zero] at k2 k3
  simp only [aAt] at k3
  obtain ⟨v,r,e2,hv,rfl⟩:=k3
  cases e2
  rw [e]
  refine ⟨a::xs,⟨a,xs,rfl,ha,a1⟩,λu hu=>?_,?_⟩
  · rcases List.mem_cons.1 hu with rfl|hu
    · exact k2 _ List.mem_cons_self
    · exact a2 u hu
  · simp only [aAt];exact ⟨_,_,rfl,hv,a3⟩
theorem aNj {t:TypeId}{fs:Array Field}{Ks:List (AV->Prop)}(ht:P.underlying t=some (.struct fs)) (hn:P.cellsOf t=fs.size) (hf:bYc (enc:=enc) (P:=P) (w:=w) fs.toList 0 Ks):
 aSk enc P w t fs.size (bX5 Ks):=λfuel cs x h=>by
 obtain ⟨xs,m,_,_,hl,hlen,hx⟩:=DataW.trod_struct ht h
 obtain ⟨ys,a1,a2,a3⟩:=aUl fs.toList 0 Ks cs hf (by rw [hl,hn];simp) λf hm=>by
  obtain ⟨i,hi,rfl⟩:=List.getElem_of_mem hm
  have:=hx i _ (by rw [Array.getElem?_eq_getElem (by simpa using hi)])
  rw [List.getElem?_eq_getElem (by rw [hlen];simpa using hi)] at this
  exact ⟨m,_,this⟩
 exact ⟨ys,a1,by rw [hl,hn],by simpa using a2,by simpa using a3⟩
theorem aJn {α:Type}{f:α->List AV}:∀{es:List (List AV)},(∀ c∈es,∃a,c=f a)->∃l:List α,es=l.map f
 |[],_=>⟨[],rfl⟩
 |e::es,h=>by
  obtain ⟨a,ha⟩:=h e List.mem_cons_self
  obtain ⟨l,hl⟩:=aJn (es:=es) λc hc=>h c (List.mem_cons_of_mem _ hc)
  exact ⟨a::l,by rw [ha,hl];rfl⟩
theorem aAc.calls {gl:Gl}{f:FuncId}{fn:Func}{c:Code}{args:List AV}{r:AV}{vs:List Value}{v:Value}(h:aAc P gl f args (λx=>x=r)) (hf:P.funcs[f]? =some fn) (hb:fn.body=some c) (hname:(fn.name == "runtime.NumGoroutine")=false)
 (hgl:bJk (SW w) w gl) (hargs:aAt (SW w) H0 w args vs) (hr:∀S b w' v',bGt S b w' r v'->v'=v):
 Calls P f vs.toArray w λe w'=>e= .returned v/\Below w.heap.size w w':=by
 have hne:fn.name≠ "runtime.NumGoroutine" :=by simpa using hname
 have hen:(callFunc f vs.toArray).run P w= .ok (.enter f vs.toArray) w:=by simp [callFunc,hf,hne,hb]
 rcases h (SW w) w vs (λb hb=>hb) hgl hargs with ⟨_,h2⟩|⟨v2,w2,h1,_⟩|⟨row,xs,w2,h1,_⟩
 · refine h2.mono λe w' he=>?_
   obtain ⟨u,rfl,x,rfl,h3,h4⟩:=he
   rw [hr _ _ _ _ h3]
   exact ⟨rfl,h4⟩
 · rw [hen] at h1;cases h1
 · rw [hen] at h1;cases h1
end
end Go.V
namespace Go.Proofs.YtphnnbfgiomaoaaGreatDoor
open Go Go.ChangeShapes Go.WideShapes Go.ChangeAt Go.RowKit Go.V
set_option maxRecDepth 100000
def isS (a:AV):Prop:=∃s,a= .str s
def isI (a:AV):Prop:=∃n,a= .int .i64 n
def cAg (a:AV):Prop:=∃es,a= .ro 1 es/\∀c∈es,∃n,c=[.int .i64 n]
def cAf (a:AV):Prop:=∃es,a= .ro 1 es/\∀c∈es,∃s,c=[.str s]
def cB7 (c:List AV):Prop:=∃x:Nd,c=x.cells
def cB8 (a:AV):Prop:=∃es,a= .ro 8 es/\∀c∈es,cB7 c
theorem bXb {c:List AV}(h:bX5 [isS,isI,isI,isS,cAg,isS,isI,cAf] c):cB7 c:=by
 obtain ⟨_,_,rfl,⟨op,rfl⟩,_,_,rfl,⟨a,rfl⟩,_,_,rfl,⟨b,rfl⟩,_,_,rfl,⟨name,rfl⟩,_,_,rfl,⟨es,rfl,h1⟩,_,_,rfl,⟨k,rfl⟩,_,_,rfl,⟨n,rfl⟩,_,_,rfl,⟨es2,rfl,h2⟩,rfl⟩:=h
 obtain ⟨shape,rfl⟩:=aJn (f:=λn=>[AV.int .i64 n]) h1
 obtain ⟨data,rfl⟩:=aJn (f:=λs=>[AV.str s]) h2
 exact ⟨⟨op,a,b,name,shape,k,n,data⟩,rfl⟩
theorem bSf {c:List AV}(h:bX5 [cB8,isI] c):∃g:Gr,c=g.cells:=by
 obtain ⟨_,_,rfl,⟨es,rfl,h1⟩,_,_,rfl,⟨n,rfl⟩,rfl⟩:=h
 obtain ⟨l,rfl⟩:=aJn h1
 exact ⟨⟨l,n⟩,rfl⟩
section
variable {H:Type}{enc:TypeId×Value->H}{W:World}
theorem bSl:aSk enc Go.Proofs.Tryz.prog W 3 1 (λxs=>∃a,xs=[a]/\isI a):=(bOb Tryz.underlying3).mono λxs ⟨n,h⟩=>⟨_,h,n,rfl⟩
theorem bSm:aSk enc Go.Proofs.Tryz.prog W 9 1 (λxs=>∃a,xs=[a]/\isS a):=(aUm Tryz.underlying9).mono λxs ⟨s,h⟩=>⟨_,h,s,rfl⟩
theorem bUa:aSk enc Go.Proofs.Tryz.prog W 27 1 (λxs=>∃a,xs=[a]/\cAg a):=(aMf Tryz.underlying27 (by kernel_rfl) (by decide) (bOb Tryz.underlying3)).mono λxs ⟨es,h,k⟩=>⟨_,h,es,rfl,k⟩
theorem bUb:aSk enc Go.Proofs.Tryz.prog W 32 1 (λxs=>∃a,xs=[a]/\cAf a):=(aMf Tryz.underlying32 (by kernel_rfl) (by decide) (aUm Tryz.underlying9)).mono λxs ⟨es,h,k⟩=>⟨_,h,es,rfl,k⟩
theorem cAm:aSk enc Go.Proofs.Tryz.prog W 34 8 cB7:=
 (aNj Tryz.underlying34 (by kernel_rfl) ⟨isS,_,rfl,rfl,by kernel_rfl,bSm,isI,_,rfl,rfl,by kernel_rfl,bSl,isI,_,rfl,rfl,by kernel_rfl,bSl,isS,_,rfl,rfl,by kernel_rfl,bSm,cAg,_,rfl,rfl,by kernel_rfl,bUa,
   isS,_,rfl,rfl,by kernel_rfl,bSm,isI,_,rfl,rfl,by kernel_rfl,bSl,cAf,_,rfl,rfl,by kernel_rfl,bUb,rfl⟩).mono λxs h=>bXb h
theorem bXc:aSk enc Go.Proofs.Tryz.prog W 22 1 (λxs=>∃a,xs=[a]/\cB8 a):=(aMf Tryz.underlying22 (by kernel_rfl) (by decide) cAm).mono λxs ⟨es,h,k⟩=>⟨_,h,es,rfl,k⟩
theorem bN3:aSk enc Go.Proofs.Tryz.prog W 24 2 (λxs=>∃g:Gr,xs=g.cells):=
 (aNj Tryz.underlying24 (by kernel_rfl) ⟨cB8,_,rfl,rfl,by kernel_rfl,bXc,isI,_,rfl,rfl,by kernel_rfl,bSl,rfl⟩).mono λxs h=>bSf h
end
theorem own:ownKnob Go.Proofs.Tryz.prog.godebug=none:=by kernel_rfl
theorem aLa:laidOutB Go.Proofs.Tryz.prog=true:=by kernel_rfl
theorem cA1 (u:TypeId) (h:Go.Proofs.Tryz.prog.typeName? 3 u=some "*errors.errorString"):u=323:=
 typeName_ptr_named (nm:= "errors.errorString") (by kernel_rfl) (by kernel_rfl) (by decide) u h
theorem bDv {P:Program}{W:World}:∀(k:Nat){L r:List (String×DataW Unit)}{x:String×DataW Unit},L.drop k=x::r->laidMet P L W->laidMet P (x::r) W
 |0,L,r,x,h,hl=>by rw [List.drop_zero] at h;rw [<- h];exact hl
 |k+1,[],r,x,h,hl=>by simp at h
 |k+1,y::L,r,x,h,hl=>bDv k (by simpa using h) (laidMet.tail hl)
theorem bO0 {P:Program}{W:World}{nm:String}{g:Nat}{cs:Array Value}(hn:P.globalNamed nm=some g) (hv:W.var? P nm=some cs):∃e f,W.heap[g]? =some (.cells cs e f):=by
 unfold World.var? at hv
 rw [hn] at hv
 simp only [Option.bind_some] at hv
 split at hv
 · rename_i cs e f hh
   cases hv
   exact ⟨e,f,hh⟩
 · cases hv
theorem bNa {W:World}{nm:String}{s:List UInt8}{r:List (String×DataW Unit)}{g:Nat}(h:laidMet Go.Proofs.Tryz.prog ((nm,.iface "*errors.errorString" (.ptr (.agg [.lit (.string s)])))::r) W) (hn:Go.Proofs.Tryz.prog.globalNamed nm=some g) (ht:(Go.Proofs.Tryz.prog.globals[g]?).map (·.type)=some 148):
 aAi (SW W) H0 W (.rp [.iface 323 .j]) (.pointer (some ⟨g,0,none⟩))/\∃c e f,W.heap[g]? =some (.cells c e f)/\c.size=1:=by
 obtain ⟨a,s,hv,_,_,_⟩:=laid_sentinel h hn ht
  Tryz.underlying148 cA1 Tryz.underlying323 Tryz.underlying342 rfl rfl Tryz.underlying9 (by kernel_rfl) (by kernel_rfl)
 have hc:W.cell? ⟨g,0,none⟩=some (.iface 323 (.pointer (some a))):=by simpa using World.var?_cell hn hv 0
 have hb:=World.block_lt_of_cell? W _ hc
 obtain ⟨e,f,hh⟩:=bO0 hn hv
 refine ⟨?_,_,e,f,hh,rfl⟩
 simp only [aAi]
 refine ⟨_,rfl,hb,hb,[.iface 323 (.pointer (some a))],?_,by simp [Go.V.One,Value.oneCell'],λk u hk=>?_⟩
 · simp [aAt,aAi]
 · rcases k with _|k
   · simp at hk;subst hk;simpa [Addr.add] using hc
   · simp at hk
theorem cXq {W:World}{nm:String}{d:DataW Unit}{r:List (String×DataW Unit)}{g:Nat}{zs:List Int}(hd:d= .agg (zs.map λz=>.lit (.int .u64 z))) (h:laidMet Go.Proofs.Tryz.prog ((nm,d)::r) W) (hn:Go.Proofs.Tryz.prog.globalNamed nm=some g) (ht:(Go.Proofs.Tryz.prog.globals[g]?).map (·.type)=some 311):
 aAi (SW W) H0 W (.rp (zs.map λz=>.int .u64 z)) (.pointer (some ⟨g,0,none⟩))/\∃c e f,W.heap[g]? =some (.cells c e f)/\c.size=(zs.map λz=>AV.int .u64 z).length:=by
 subst hd
 obtain ⟨ps,⟨g',t,cs,fuel,p,q,hg,ht',hv,hd,_,_⟩,_,_⟩:=h
 obtain rfl:=Option.some.inj (hn.symm.trans hg)
 obtain rfl:=Option.some.inj (ht.symm.trans ht')
 obtain ⟨xs,m,_,ex,hcs,hl,hel⟩:=DataW.trod_array Tryz.underlying311 hd
 have e3:(xs.map (·.1))=zs.map λn=>.lit (.int .u64 n):=(DataW.agg.inj (Prod.mk.inj ex).1).symm
 have hzl:zs.length=20:=by have:=congrArg List.length e3;simpa [hl] using this.symm
 have c5:Go.Proofs.Tryz.prog.cellsOf 170=1:=by kernel_rfl
 have c6:Go.Proofs.Tryz.prog.cellsOf 311=20:=by kernel_rfl
 have hcell:∀k (hk:k<zs.length),cs.toList[k]? =some (.int .u64 zs[k]):=λk hk=>by
  have hE:=hel k (by omega)
  rw [c5,Nat.mul_one,List.getElem?_eq_getElem (by omega)] at hE
  obtain ⟨z,e1,e2,_⟩:=DataW.trod_int Tryz.underlying170 hE
  have e4:(xs.map (·.1))[k]? =(zs.map λn=>(DataW.lit (.int .u64 n):DataW Unit))[k]? :=by rw [e3]
  rw [List.getElem?_map,List.getElem?_map,List.getElem?_eq_getElem (by omega:k<xs.length),List.getElem?_eq_getElem hk,e2] at e4
  simp only [Option.map_some,Option.some.injEq,DataW.lit.injEq,Lit.int.injEq,true_and] at e4
  have h0:((cs.toList.drop k).take 1)[0]? =some (.int .u64 z):=by rw [e1];rfl
  rw [<- e4]
  simpa using h0
 have hsz:cs.size=20:=by simpa [c6] using hcs
 obtain ⟨e,f,hh⟩:=bO0 hn hv
 have hb:g<W.heap.size:=by
  rcases Nat.lt_or_ge g W.heap.size with h|h
  · exact h
  · rw [Array.getElem?_eq_none h] at hh;cases hh
 refine ⟨?_,_,e,f,hh,by simp [hsz,hzl]⟩
 simp only [aAi]
 refine ⟨_,rfl,hb,hb,zs.map λz=>.int .u64 z,?_,?_,λk u hk=>?_⟩
 · clear hcell e3 hd ex hzl
   induction zs with
   |nil=>simp [aAt]
   |cons z zs ih=>simp only [List.map_cons,aAt,aAi];exact ⟨_,_,rfl,rfl,ih⟩
 · intro v hv
   obtain ⟨z,_,rfl⟩:=List.mem_map.1 hv
   simp [Value.oneCell']
 · rw [List.getElem?_map] at hk
   rcases Nat.lt_or_ge k zs.length with h|h
   · rw [List.getElem?_eq_getElem h] at hk
     simp only [Option.map_some,Option.some.injEq] at hk
     subst hk
     have:=World.var?_cell hn hv k
     have ha:Addr.add ⟨g,0,none⟩ k=⟨g,k,none⟩:=by rcases k with _|k<;>simp [Addr.add]
     rw [ha,this,<-hcell k h,Array.getElem?_toList]
   · rw [List.getElem?_eq_none h] at hk;cases hk
theorem bWs {W:World}{L:List (String×DataW Unit)}(hL:laidMet Go.Proofs.Tryz.prog L W) (e0:∃k r,L.drop k=("tapewright/rat.errForm",Rows.laid_tapewright_rat_errForm)::r) (e1:∃k r,L.drop k=("tapewright/rat.errZero",Rows.laid_tapewright_rat_errZero)::r) (e2:∃k r,L.drop k=("internal/strconv.uint64pow10",Rows.laid_internal_strconv_uint64pow10)::r):bJk (SW W) W GL:=by
 intro g cs hm
 simp only [GL,List.mem_cons,List.not_mem_nil,or_false,Prod.mk.injEq] at hm
 obtain ⟨rfl,rfl⟩|⟨rfl,rfl⟩|⟨rfl,rfl⟩:=hm
 · obtain ⟨k,r,e⟩:=e0
   exact bNa (bDv k e hL) (by kernel_rfl) (by kernel_rfl)
 · obtain ⟨k,r,e⟩:=e1
   exact bNa (bDv k e hL) (by kernel_rfl) (by kernel_rfl)
 · obtain ⟨k,r,e⟩:=e2
   exact cXq (zs:=cW4) rfl (bDv k e hL) (by kernel_rfl) (by kernel_rfl)
end Go.Proofs.YtphnnbfgiomaoaaGreatDoor
