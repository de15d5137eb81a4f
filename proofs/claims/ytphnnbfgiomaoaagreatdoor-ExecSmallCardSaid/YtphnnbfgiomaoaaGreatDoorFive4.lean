/-
  Lemmas (part 4) for: the statement.
-/
import Derived.Test.YtphnnbfgiomaoaaGreatDoorFive3
set_option linter.all false
namespace Go.V
open Go.N Go.Proofs
variable (gl:Gl)
def bQv:Tab:=[(9,i9)]
theorem aTm:TOK Tryz.prog bQv:=⟨K9,trivial⟩
def bCm:Tab:=[(32,i32),(9,i9),(3,i3)]
theorem aU9:TOK Tryz.prog bCm:=⟨K32,⟨K9,⟨K3,trivial⟩⟩⟩
def cHe:Tab:=[(34,i34),(9,i9),(3,i3),(27,i27)]
theorem cGc:TOK Tryz.prog cHe:=⟨K34,⟨K9,⟨K3,⟨K27,trivial⟩⟩⟩⟩
theorem bL6 (s:ByteArray) (hs:s.size<1000000):aAc Tryz.prog gl 133 [.str s] (λx=>x= .bool (aGy s)):=by
 refine vgo bBq Tryz.func133 ?_
 rcases Nat.eq_zero_or_pos s.size with h0|h0
 · rw [bFb h0]
   repeat' first|refine sX ⟨?_⟩|(refine sp ?_ ?_<;>refine λh=>⟨?_⟩)|fail
   conv=>whnf
   exact congrArg AV.bool aGz.symm
 have hl:=Go.N.len_toList s
 have hne:¬s=⟨#[]⟩:=λe=>by rw [e] at h0;exact absurd h0 (by decide)
 have h1:0<s.toList.length:=by omega
 have hi:=aNg h1
 have hT:=bV8 gl s hs (by omega)
 repeat' first|refine sX ⟨?_⟩|(refine sp ?_ ?_<;>refine λh=>⟨?_⟩)|fail
 all_goals first|exact absurd (by assumption) hne|skip
 · conv=>whnf
   exact congrArg AV.bool (Eq.symm (Bool.eq_false_iff.2 λhh=>by have:=hi.1 hh;omega))
 · conv=>whnf
   exact congrArg AV.bool (Eq.symm (Bool.eq_false_iff.2 λhh=>by have:=hi.1 hh;omega))
 · conv=>whnf
   exact congrArg AV.bool (Eq.symm (Bool.eq_false_iff.2 λhh=>by have:=hi.1 hh;omega))
 conv=>whnf
 refine .inl ⟨_,hT,?_⟩
 rintro _ ⟨r,rfl,hr⟩
 have e:decide (r=⟨#[]⟩)=aGy s:=by
  rw [Bool.eq_iff_iff,decide_eq_true_eq,hr,hi]
  constructor
  · intro hh;exact ⟨by omega,hh,by omega,by omega⟩
  · intro hh;exact hh.2.1
 repeat' first|refine sX ⟨?_⟩|(refine sp ?_ ?_<;>refine λh=>⟨?_⟩)|fail
 conv=>whnf
 exact congrArg AV.bool e
set_option maxHeartbeats 1000000 in
theorem aTw (s:ByteArray) (hs:s.size<1000000):aAc Tryz.prog gl 83 [.str s] (λx=>x= .bool (aGy s)):=by
 refine vgo aYf Tryz.func83 ?_
 have hl:=Go.N.len_toList s
 repeat' first|refine sX ⟨?_⟩|(refine sp ?_ ?_<;>refine λh=>⟨?_⟩)|fail
 refine ⟨[0,3],[],λm st=>∃i:Nat,i<=s.toList.length/\m=s.toList.length - i/\(s.toList.take i).all aRq=true/\(∀ h:0<s.toList.length,0<i->97<=s.toList[0].toNat/\s.toList[0].toNat<=122)/\
  st=⟨[(0,.str s),(3,.int .i64 (i:Nat))],[]⟩,rfl,⟨s.toList.length,0,by omega,rfl,by simp,by omega,rfl⟩,?_⟩
 rintro m _ ⟨i,hi,hm,ha,hd,rfl⟩
 rcases Nat.lt_or_ge i s.toList.length with hil|hge
 · have h1:0<s.toList.length:=by omega
   have hn:=aNg h1
   have hd:=hd h1
   by_cases hbad:aRq s.toList[i]=true/\(i=0->97<=s.toList[i].toNat/\s.toList[i].toNat<=122)
   · obtain ⟨hb1,hb2⟩:=hbad
     have hb3:=hb1
     simp only [aRq,Bool.or_eq_true,decide_eq_true_eq] at hb3
     have go:∃i':Nat,i'<=s.toList.length/\s.toList.length - (i+1)=s.toList.length - i'/\(s.toList.take i').all aRq=true/\(∀ h:0<s.toList.length,0<i'->97<=s.toList[0].toNat/\s.toList[0].toNat<=122)/\
      (⟨[(0,.str s),(3,.int .i64 ((i:Int)+1))],[]⟩:St)=⟨[(0,.str s),(3,.int .i64 (i':Nat))],[]⟩:=
      ⟨i+1,by omega,rfl,by rw [List.take_succ_eq_append_getElem hil,List.all_append,ha];simp [hb1],λh _=>by
        rcases Nat.eq_zero_or_pos i with h0|h0
        · subst h0;exact hb2 rfl
        · exact hd h0,rfl⟩
     repeat' first|refine sX ⟨?_⟩|(refine sp ?_ ?_<;>refine λh=>⟨?_⟩)|fail
     all_goals try omega
     all_goals exact ⟨[],s.toList.length - (i+1),rfl,by omega,go⟩
   · have hf:aGy s=false:=Bool.eq_false_iff.2 λhh=>hbad ⟨List.all_eq_true.1 (hn.1 hh).2.1 _ (List.getElem_mem hil),λe=>by subst e;exact (hn.1 hh).2.2⟩
     rw [hf]
     have hb3:¬(97<=s.toList[i].toNat/\s.toList[i].toNat<=122)/\(i=0\/¬(48<=s.toList[i].toNat/\s.toList[i].toNat<=57)):=by
      simp only [aRq,Bool.or_eq_true,decide_eq_true_eq] at hbad
      omega
     repeat' first|refine sX ⟨?_⟩|(refine sp ?_ ?_<;>refine λh=>⟨?_⟩)|fail
     all_goals try omega
     all_goals (conv=>whnf)
     all_goals rfl
 · rw [List.take_of_length_le (by omega)] at ha
   rcases Nat.eq_zero_or_pos s.size with h0|h0
   · rw [bFb h0,aGz]
     repeat' first|refine sX ⟨?_⟩|(refine sp ?_ ?_<;>refine λh=>⟨?_⟩)|fail
     all_goals try omega
     all_goals (conv=>whnf)
     all_goals rfl
   have h1:0<s.toList.length:=by omega
   have hn:=aNg h1
   have hd:=hd h1 (by omega)
   repeat' first|refine sX ⟨?_⟩|(refine sp ?_ ?_<;>refine λh=>⟨?_⟩)|fail
   all_goals try omega
   · conv=>whnf
     refine congrArg AV.bool ?_
     rw [Bool.eq_iff_iff,hn,decide_eq_true_eq]
     constructor
     · intro hh;exact ⟨by omega,ha,hd⟩
     · intro hh;omega
end Go.V
namespace Go.V
open Go.N Go.Proofs
variable (gl:Gl)
theorem bRr (s:ByteArray):aAc Tryz.prog gl 87 [.str s] (λx=>x= .tup [.int .i64 (aEe s:Nat),.bool (aBh s).isSome]):=by
 rcases aMe s with ⟨o,rfl⟩|hn
 · refine vgo aTm Tryz.func87 ?_
   cases o
   all_goals (repeat' first|refine sX ⟨?_⟩|(refine sp ?_ ?_<;>refine λh=>⟨?_⟩)|fail)
   all_goals (conv=>whnf)
   all_goals rfl
 · have e1:aEe s=0:=by rw [aEe,hn];rfl
   rw [e1,hn]
   refine vgo aTm Tryz.func87 ?_
   repeat' first|refine sX ⟨?_⟩|(refine sp ?_ ?_<;>refine λh=>⟨?_⟩)|fail
   all_goals first|exact absurd hn (by rw [h];decide)|skip
   conv=>whnf
   rfl
set_option maxHeartbeats 2000000 in
theorem aK4 (s:ByteArray):aAc Tryz.prog gl 38 [.str s] (λx=>x= .int .i64 (aIp s)):=by
 refine vgo aU9 Tryz.func38 ?_
 repeat' first|refine sX ⟨?_⟩|(refine sp ?_ ?_<;>refine λh=>⟨?_⟩)|fail
 refine ⟨[0,9,10,11],[0],λm st=>∃i q:Nat,q=3/\i<=bA9.length/\m=bA9.length - i/\aIb s (bA9.take i)=false/\st=⟨[(0,.str s),(9,.own 0 0 3),(10,.int .i64 (q:Nat)),(11,.int .i64 (i:Nat))],[.row false 9 1 (aCm bA9)]⟩,rfl,⟨bA9.length,0,3,rfl,by decide,rfl,rfl,rfl⟩,?_⟩
 rintro m _ ⟨i,q,hq,hi,hm,ha,rfl⟩
 have hL:bA9.length=3:=rfl
 rcases Nat.lt_or_ge i bA9.length with hil|hge
 · have g:(aCm bA9)[0+i]? =some [.str bA9[i]]:=by rw [Nat.zero_add];exact aCd hil
   have ha':s=bA9[i]\/aIb s (bA9.take (i+1))=false:=by
    rw [List.take_succ_eq_append_getElem hil]
    by_cases e:s=bA9[i]
    · exact .inl e
    · right;simp only [aIb,List.any_append] at ha ⊢;rw [ha];simp [e]
   repeat' first|refine sX ⟨?_⟩|(refine sp ?_ ?_<;>refine λh=>⟨?_⟩)|fail
   all_goals try omega
   · conv=>whnf
     have hin:aIb s bA9=true:=List.any_eq_true.2 ⟨_,List.getElem_mem hil,by rw [decide_eq_true_eq];exact h.symm⟩
     exact congrArg (AV.int .i64) (by simp [aIp,aBh,hin])
   · refine ⟨[0],bA9.length - (i+1),rfl,by omega,i+1,q,hq,by omega,rfl,?_,rfl⟩
     rcases ha' with e|e
     · exact absurd e.symm h
     · exact e
 rw [List.take_of_length_le (by omega)] at ha
 have hi3:i=3:=by omega
 subst hi3
 repeat' first|refine sX ⟨?_⟩|(refine sp ?_ ?_<;>refine λh=>⟨?_⟩)|fail
 all_goals try omega
 have h0:=ha
 refine ⟨[0,19,20,21],[1],λm st=>∃i q:Nat,q=10/\i<=bBa.length/\m=bBa.length - i/\aIb s (bBa.take i)=false/\st=⟨[(0,.str s),(19,.own 0 0 10),(20,.int .i64 (q:Nat)),(21,.int .i64 (i:Nat))],[.row false 9 1 (aCm bBa)]⟩,rfl,⟨bBa.length,0,10,rfl,by decide,rfl,rfl,rfl⟩,?_⟩
 rintro m _ ⟨i,q,hq,hi,hm,ha,rfl⟩
 have hL:bBa.length=10:=rfl
 rcases Nat.lt_or_ge i bBa.length with hil|hge
 · have g:(aCm bBa)[0+i]? =some [.str bBa[i]]:=by rw [Nat.zero_add];exact aCd hil
   have ha':s=bBa[i]\/aIb s (bBa.take (i+1))=false:=by
    rw [List.take_succ_eq_append_getElem hil]
    by_cases e:s=bBa[i]
    · exact .inl e
    · right;simp only [aIb,List.any_append] at ha ⊢;rw [ha];simp [e]
   repeat' first|refine sX ⟨?_⟩|(refine sp ?_ ?_<;>refine λh=>⟨?_⟩)|fail
   all_goals try omega
   · conv=>whnf
     have hin:aIb s bBa=true:=List.any_eq_true.2 ⟨_,List.getElem_mem hil,by rw [decide_eq_true_eq];exact h.symm⟩
     exact congrArg (AV.int .i64) (by simp [aIp,aBh,h0,hin])
   · refine ⟨[0],bBa.length - (i+1),rfl,by omega,i+1,q,hq,by omega,rfl,?_,rfl⟩
     rcases ha' with e|e
     · exact absurd e.symm h
     · exact e
 rw [List.take_of_length_le (by omega)] at ha
 have hi3:i=10:=by omega
 subst hi3
 repeat' first|refine sX ⟨?_⟩|(refine sp ?_ ?_<;>refine λh=>⟨?_⟩)|fail
 all_goals try omega
 have h1:=ha
 refine ⟨[0,29,30,31],[1],λm st=>∃i q:Nat,q=6/\i<=bBb.length/\m=bBb.length - i/\aIb s (bBb.take i)=false/\st=⟨[(0,.str s),(29,.own 0 0 6),(30,.int .i64 (q:Nat)),(31,.int .i64 (i:Nat))],[.row false 9 1 (aCm bBb)]⟩,rfl,⟨bBb.length,0,6,rfl,by decide,rfl,rfl,rfl⟩,?_⟩
 rintro m _ ⟨i,q,hq,hi,hm,ha,rfl⟩
 have hL:bBb.length=6:=rfl
 rcases Nat.lt_or_ge i bBb.length with hil|hge
 · have g:(aCm bBb)[0+i]? =some [.str bBb[i]]:=by rw [Nat.zero_add];exact aCd hil
   have ha':s=bBb[i]\/aIb s (bBb.take (i+1))=false:=by
    rw [List.take_succ_eq_append_getElem hil]
    by_cases e:s=bBb[i]
    · exact .inl e
    · right;simp only [aIb,List.any_append] at ha ⊢;rw [ha];simp [e]
   repeat' first|refine sX ⟨?_⟩|(refine sp ?_ ?_<;>refine λh=>⟨?_⟩)|fail
   all_goals try omega
   · conv=>whnf
     have hin:aIb s bBb=true:=List.any_eq_true.2 ⟨_,List.getElem_mem hil,by rw [decide_eq_true_eq];exact h.symm⟩
     exact congrArg (AV.int .i64) (by simp [aIp,aBh,h0,h1,hin])
   · refine ⟨[0],bBb.length - (i+1),rfl,by omega,i+1,q,hq,by omega,rfl,?_,rfl⟩
     rcases ha' with e|e
     · exact absurd e.symm h
     · exact e
 rw [List.take_of_length_le (by omega)] at ha
 have hi3:i=6:=by omega
 subst hi3
 repeat' first|refine sX ⟨?_⟩|(refine sp ?_ ?_<;>refine λh=>⟨?_⟩)|fail
 all_goals try omega
 conv=>whnf
 exact congrArg (AV.int .i64) (by simp [aIp,aBh,h0,h1,ha])
theorem cFb (x:Nd):aAc Tryz.prog gl 121 [.agg x.cells] (λy=>y= .ro 1 (aAh (cEp x))):=by
 obtain ⟨op,a,b,name,shape,k,n,data⟩:=x
 refine aAc.taken ?_
 rcases aMe op with ⟨o,rfl⟩|hn
 · refine vgo cGc Tryz.func121 ?_
   cases o
   all_goals (repeat' first|refine sX ⟨?_⟩|(refine sp ?_ ?_<;>refine λh=>⟨?_⟩)|fail)
   all_goals (conv=>whnf)
   all_goals first|exact ⟨_,(show aC7 .nils (.ro 1 []) from ⟨1,rfl⟩),rfl⟩|exact ⟨_,rfl,rfl⟩
 · have e1:cEp ⟨op,a,b,name,shape,k,n,data⟩=[a]:=by simp only [cEp,hn]
   rw [e1]
   refine vgo cGc Tryz.func121 ?_
   repeat' first|refine sX ⟨?_⟩|(refine sp ?_ ?_<;>refine λh=>⟨?_⟩)|fail
   all_goals first|exact absurd hn (by rw [show op=_ from h];decide)|skip
   conv=>whnf
   exact ⟨_,rfl,rfl⟩
end Go.V
namespace Go.V
open Go.N Go.Proofs
set_option maxRecDepth 20000
variable (gl:Gl)
def bU9:Tab:=[(34,i34),(9,i9),(3,i3),(4,i4),(32,i32)]
theorem aHj:TOK Tryz.prog bU9:=⟨K34,⟨K9,⟨K3,⟨K4,⟨K32,trivial⟩⟩⟩⟩⟩
set_option maxHeartbeats 4000000 in
theorem bVy (x:Nd) (m:Nat) (hx:x.Sm) (hm:m<=2):aAc Tryz.prog gl 88 [.agg x.cells,.int .i64 (m:Nat)] (λy=>y= .bool (aTq x m)):=by
 obtain ⟨op,a,b,name,shape,k,n,data⟩:=x
 have hname:=bL6 gl name (Nat.lt_of_le_of_lt hx.name (by decide))
 have hlen:(aCm data).length=data.length:=rowS_length data
 simp only [aTq]
 generalize aGy name=nm at hname ⊢
 by_cases h1:op=aGh
 · subst h1
   rw [show aA7 aGh=true from rfl,show decide (aGh=aB4)=false from rfl,show decide (aGh=aCn)=false from rfl,show decide (aGh=aA0)=false from rfl]
   refine vgo aHj Tryz.func88 ?_
   repeat' first|refine sY ⟨?_⟩|(refine sq ?_ ?_<;>refine λh=>⟨?_⟩<;>(first|contradiction|(exfalso;omega)|skip))|fail
   all_goals (conv=>whnf)
   all_goals (clear hname hx)
   all_goals simp_all [one]
 by_cases h2:op=aKv
 · subst h2
   rw [show aA7 aKv=true from rfl,show decide (aKv=aB4)=false from rfl,show decide (aKv=aCn)=false from rfl,show decide (aKv=aA0)=false from rfl]
   refine vgo aHj Tryz.func88 ?_
   repeat' first|refine sY ⟨?_⟩|(refine sq ?_ ?_<;>refine λh=>⟨?_⟩<;>(first|contradiction|(exfalso;omega)|skip))|fail
   all_goals (conv=>whnf)
   all_goals (clear hname hx)
   all_goals simp_all [one]
 by_cases h3:op=aB4
 · subst h3
   rw [show aA7 aB4=false from rfl,show decide (aB4=aB4)=true from rfl,show decide (aB4=aCn)=false from rfl,show decide (aB4=aA0)=false from rfl]
   refine vgo aHj Tryz.func88 ?_
   repeat' first|refine sY ⟨?_⟩|(refine sq ?_ ?_<;>refine λh=>⟨?_⟩<;>(first|contradiction|(exfalso;omega)|skip))|fail
   all_goals (conv=>whnf)
   all_goals (clear hname hx)
   all_goals simp_all [one]
 by_cases h4:op=aCn
 · subst h4
   rw [show aA7 aCn=false from rfl,show decide (aCn=aB4)=false from rfl,show decide (aCn=aCn)=true from rfl,show decide (aCn=aA0)=false from rfl]
   refine vgo aHj Tryz.func88 ?_
   repeat' first|refine sY ⟨?_⟩|(refine sq ?_ ?_<;>refine λh=>⟨?_⟩<;>(first|contradiction|(exfalso;omega)|skip))|fail
   all_goals (conv=>whnf)
   all_goals (clear hname hx)
   all_goals simp_all [one]
 by_cases h5:op=aA0
 · subst h5
   rw [show aA7 aA0=false from rfl,show decide (aA0=aB4)=false from rfl,show decide (aA0=aCn)=false from rfl,show decide (aA0=aA0)=true from rfl]
   refine vgo aHj Tryz.func88 ?_
   repeat' first|refine sY ⟨?_⟩|(refine sq ?_ ?_<;>refine λh=>⟨?_⟩<;>(first|contradiction|(exfalso;omega)|skip))|fail
   all_goals (conv=>whnf)
   all_goals (clear hname hx)
   all_goals simp_all [one]
 rw [show aA7 op=false by rw [aA7,decide_eq_false h1,decide_eq_false h2];rfl,decide_eq_false h3,decide_eq_false h4,decide_eq_false h5]
 refine vgo aHj Tryz.func88 ?_
 repeat' first|refine sY ⟨?_⟩|(refine sq ?_ ?_<;>refine λh=>⟨?_⟩<;>(first|contradiction|(exfalso;omega)|skip))|fail
 all_goals (conv=>whnf)
 all_goals (clear hname hx)
 all_goals simp_all [one]
end Go.V
namespace Go.V
open Go.N Go.Proofs
set_option maxRecDepth 20000
def cBu:Tab:=[(34,i34),(9,i9),(27,i27),(32,i32),(3,i3),(92,i92),(4,i4)]
theorem aCg:TOK Tryz.prog cBu:=⟨K34,⟨K9,⟨K27,⟨K32,⟨K3,⟨K92,⟨K4,trivial⟩⟩⟩⟩⟩⟩⟩
def bYz:Tab:=[(9,i9),(4,i4)]
theorem bP3:TOK Tryz.prog bYz:=⟨K9,⟨K4,trivial⟩⟩
theorem bZl (s:ByteArray) (hs:s.size<190000):aAc Tryz.prog GL 134 [.str s] (λx=>x= .bool (!aBa s)):=by
 have hr:=aLs s hs
 refine vgo bP3 Tryz.func134 ?_
 repeat' first|refine sV ⟨?_⟩|refine sq (λh=>⟨?_⟩) λh=>⟨?_⟩|fail
 conv=>whnf
 rfl
set_option maxHeartbeats 4000000 in
theorem bVz (x:Nd) (a b:List Int) (hx:x.Sm) (ha:a.length<=1000) (hb:b.length<=1000):
 aAc Tryz.prog GL 89 [.agg x.cells,.ro 1 (aAh a),.ro 1 (aAh b)] (λy=>y= .tup [.ro 1 (aAh (ofZ x a b).1),.bool (ofZ x a b).2]):=by
 obtain ⟨op,na,nb,name,shape,k,n,data⟩:=x
 have hsz:=aE8 GL shape (Nat.lt_of_le_of_lt hx.shape (by decide))
 have hsza:=aE8 GL a (by omega)
 have hsame:=aC4 GL a b (by omega) (by omega)
 have hrk:=aLs k (Nat.lt_of_le_of_lt hx.k (by decide))
 have hcf:=aIy GL 134 data (λd=> !aBa d) (Nat.lt_of_le_of_lt hx.data (by decide)) (λd hd=>bZl d (Nat.lt_of_le_of_lt (hx.each d hd) (by decide)))
 have hla:(aAh a).length=a.length:=rowZ_length a
 have hlb:(aAh b).length=b.length:=rowZ_length b
 have hld:(aCm data).length=data.length:=rowS_length data
 refine aAc.taken ?_
 rcases aMe op with ⟨o,rfl⟩|hn
 · cases o
   case const=>
    rw [show ofZ ⟨Opc.str .const,na,nb,name,shape,k,n,data⟩ a b=(shape,decide ((data.length:Int)=aDj shape) && !(data.any λd=> !aBa d)) from rfl]
    rw [<- rowS_length]
    refine vgo aCg Tryz.func89 ?_
    repeat' first|refine sV ⟨?_⟩|refine sq (λh=>⟨?_⟩) λh=>⟨?_⟩|fail
    refine ⟨by decide +kernel,[0,1,0,4,12,0,32,96,252,508,1020,2044,4092,8188,16380,8191,65535],by decide +kernel,?_⟩
    repeat' first|refine sV ⟨?_⟩|refine sq (λh=>⟨?_⟩) λh=>⟨?_⟩|fail
    all_goals (conv=>whnf)
    all_goals first|exact ⟨_,aAf rfl rfl,rfl⟩|exact ⟨_,aAf ⟨1,rfl⟩ rfl,rfl⟩|exact ⟨_,aAf rfl (congrArg AV.bool (by simp [h])),rfl⟩
   case add=>
    refine vgo aCg Tryz.func89 ?_
    repeat' first|refine sV ⟨?_⟩|refine sq (λh=>⟨?_⟩) λh=>⟨?_⟩|fail
    all_goals (conv=>whnf)
    all_goals first|exact ⟨_,aAf rfl rfl,rfl⟩|exact ⟨_,aAf ⟨1,rfl⟩ rfl,rfl⟩|exact ⟨_,aAf rfl (congrArg AV.bool (by simp [h])),rfl⟩
   case sub=>
    refine vgo aCg Tryz.func89 ?_
    repeat' first|refine sV ⟨?_⟩|refine sq (λh=>⟨?_⟩) λh=>⟨?_⟩|fail
    all_goals (conv=>whnf)
    all_goals first|exact ⟨_,aAf rfl rfl,rfl⟩|exact ⟨_,aAf ⟨1,rfl⟩ rfl,rfl⟩|exact ⟨_,aAf rfl (congrArg AV.bool (by simp [h])),rfl⟩
   case mul=>
    refine vgo aCg Tryz.func89 ?_
    repeat' first|refine sV ⟨?_⟩|refine sq (λh=>⟨?_⟩) λh=>⟨?_⟩|fail
    all_goals (conv=>whnf)
    all_goals first|exact ⟨_,aAf rfl rfl,rfl⟩|exact ⟨_,aAf ⟨1,rfl⟩ rfl,rfl⟩|exact ⟨_,aAf rfl (congrArg AV.bool (by simp [h])),rfl⟩
   case max=>
    refine vgo aCg Tryz.func89 ?_
    repeat' first|refine sV ⟨?_⟩|refine sq (λh=>⟨?_⟩) λh=>⟨?_⟩|fail
    all_goals (conv=>whnf)
    all_goals first|exact ⟨_,aAf rfl rfl,rfl⟩|exact ⟨_,aAf ⟨1,rfl⟩ rfl,rfl⟩|exact ⟨_,aAf rfl (congrArg AV.bool (by simp [h])),rfl⟩
   case above=>
    refine vgo aCg Tryz.func89 ?_
    repeat' first|refine sV ⟨?_⟩|refine sq (λh=>⟨?_⟩) λh=>⟨?_⟩|fail
    all_goals (conv=>whnf)
    all_goals first|exact ⟨_,aAf rfl rfl,rfl⟩|exact ⟨_,aAf ⟨1,rfl⟩ rfl,rfl⟩|exact ⟨_,aAf rfl (congrArg AV.bool (by simp [h])),rfl⟩
   case relu=>
    refine vgo aCg Tryz.func89 ?_
    repeat' first|refine sV ⟨?_⟩|refine sq (λh=>⟨?_⟩) λh=>⟨?_⟩|fail
    all_goals (conv=>whnf)
    all_goals first|exact ⟨_,aAf rfl rfl,rfl⟩|exact ⟨_,aAf ⟨1,rfl⟩ rfl,rfl⟩|exact ⟨_,aAf rfl (congrArg AV.bool (by simp [h])),rfl⟩
   case abs=>
    refine vgo aCg Tryz.func89 ?_
    repeat' first|refine sV ⟨?_⟩|refine sq (λh=>⟨?_⟩) λh=>⟨?_⟩|fail
    all_goals (conv=>whnf)
    all_goals first|exact ⟨_,aAf rfl rfl,rfl⟩|exact ⟨_,aAf ⟨1,rfl⟩ rfl,rfl⟩|exact ⟨_,aAf rfl (congrArg AV.bool (by simp [h])),rfl⟩
   case step=>
    refine vgo aCg Tryz.func89 ?_
    repeat' first|refine sV ⟨?_⟩|refine sq (λh=>⟨?_⟩) λh=>⟨?_⟩|fail
    all_goals (conv=>whnf)
    all_goals first|exact ⟨_,aAf rfl rfl,rfl⟩|exact ⟨_,aAf ⟨1,rfl⟩ rfl,rfl⟩|exact ⟨_,aAf rfl (congrArg AV.bool (by simp [h])),rfl⟩
   case sign=>
    refine vgo aCg Tryz.func89 ?_
    repeat' first|refine sV ⟨?_⟩|refine sq (λh=>⟨?_⟩) λh=>⟨?_⟩|fail
    all_goals (conv=>whnf)
    all_goals first|exact ⟨_,aAf rfl rfl,rfl⟩|exact ⟨_,aAf ⟨1,rfl⟩ rfl,rfl⟩|exact ⟨_,aAf rfl (congrArg AV.bool (by simp [h])),rfl⟩
   case scale=>
    refine vgo aCg Tryz.func89 ?_
    repeat' first|refine sV ⟨?_⟩|refine sq (λh=>⟨?_⟩) λh=>⟨?_⟩|fail
    all_goals (conv=>whnf)
    all_goals first|exact ⟨_,aAf rfl rfl,rfl⟩|exact ⟨_,aAf ⟨1,rfl⟩ rfl,rfl⟩|exact ⟨_,aAf rfl (congrArg AV.bool (by simp [h])),rfl⟩
   case sum=>
    refine vgo aCg Tryz.func89 ?_
    repeat' first|refine sV ⟨?_⟩|refine sq (λh=>⟨?_⟩) λh=>⟨?_⟩|fail
    all_goals (conv=>whnf)
    all_goals first|exact ⟨_,aAf rfl rfl,rfl⟩|exact ⟨_,aAf ⟨1,rfl⟩ rfl,rfl⟩|exact ⟨_,aAf rfl (congrArg AV.bool (by simp [h])),rfl⟩
   case param=>
    refine vgo aCg Tryz.func89 ?_
    repeat' first|refine sV ⟨?_⟩|refine sq (λh=>⟨?_⟩) λh=>⟨?_⟩|fail
    all_goals (conv=>whnf)
    all_goals first|exact ⟨_,aAf rfl rfl,rfl⟩|exact ⟨_,aAf ⟨1,rfl⟩ rfl,rfl⟩|exact ⟨_,aAf rfl (congrArg AV.bool (by simp [h])),rfl⟩
   case input=>
    refine vgo aCg Tryz.func89 ?_
    repeat' first|refine sV ⟨?_⟩|refine sq (λh=>⟨?_⟩) λh=>⟨?_⟩|fail
    all_goals (conv=>whnf)
    all_goals first|exact ⟨_,aAf rfl rfl,rfl⟩|exact ⟨_,aAf ⟨1,rfl⟩ rfl,rfl⟩|exact ⟨_,aAf rfl (congrArg AV.bool (by simp [h])),rfl⟩
   case power=>
    rw [show ofZ ⟨Opc.str .power,na,nb,name,shape,k,n,data⟩ a b=(a,decide (0<=n) && decide (n<=6)) from rfl]
    refine vgo aCg Tryz.func89 ?_
    repeat' first|refine sV ⟨?_⟩|refine sq (λh=>⟨?_⟩) λh=>⟨?_⟩|fail
    refine ⟨by decide +kernel,[0,0,2,6,14,30,62,126,254,31,1023],by decide +kernel,?_⟩
    repeat' first|refine sV ⟨?_⟩|refine sq (λh=>⟨?_⟩) λh=>⟨?_⟩|fail
    all_goals (conv=>whnf)
    all_goals first|exact ⟨_,aAf rfl rfl,rfl⟩|exact ⟨_,aAf ⟨1,rfl⟩ rfl,rfl⟩|exact ⟨_,aAf rfl (congrArg AV.bool (by simp [h])),rfl⟩
   case reshape=>
    refine vgo aCg Tryz.func89 ?_
    repeat' first|refine sV ⟨?_⟩|refine sq (λh=>⟨?_⟩) λh=>⟨?_⟩|fail
    refine ⟨by decide +kernel,[0,1,0,4,12,0,60,124,127,511],by decide +kernel,?_⟩
    repeat' first|refine sV ⟨?_⟩|refine sq (λh=>⟨?_⟩) λh=>⟨?_⟩|fail
    all_goals (conv=>whnf)
    all_goals first|exact ⟨_,aAf rfl rfl,rfl⟩|exact ⟨_,aAf ⟨1,rfl⟩ rfl,rfl⟩|exact ⟨_,aAf rfl (congrArg AV.bool (by simp [h])),rfl⟩
   case spread=>
    rw [show ofZ ⟨Opc.str .spread,na,nb,name,shape,k,n,data⟩ a b=(shape,decide ((a.length:Int)=0)) from rfl]
    rw [<- rowZ_length]
    refine vgo aCg Tryz.func89 ?_
    repeat' first|refine sV ⟨?_⟩|refine sq (λh=>⟨?_⟩) λh=>⟨?_⟩|fail
    all_goals (conv=>whnf)
    all_goals first|exact ⟨_,aAf rfl rfl,rfl⟩|exact ⟨_,aAf ⟨1,rfl⟩ rfl,rfl⟩|exact ⟨_,aAf rfl (congrArg AV.bool (by simp [h])),rfl⟩
   case transpose=>
    by_cases h2:a.length=2
    · obtain ⟨p,q,rfl⟩:=aKw h2
      refine vgo aCg Tryz.func89 ?_
      repeat' first|refine sV ⟨?_⟩|refine sq (λh=>⟨?_⟩) λh=>⟨?_⟩|fail
      refine ⟨by decide +kernel,[0,1,3,0,8,24,63,127,255],by decide +kernel,?_⟩
      repeat' first|refine sV ⟨?_⟩|refine sq (λh=>⟨?_⟩) λh=>⟨?_⟩|fail
      all_goals (conv=>whnf)
      all_goals first|exact ⟨_,aAf rfl rfl,rfl⟩|exact ⟨_,aAf ⟨1,rfl⟩ rfl,rfl⟩|exact ⟨_,aAf rfl (congrArg AV.bool (by simp [h])),rfl⟩
    · rw [show ofZ ⟨Opc.str .transpose,na,nb,name,shape,k,n,data⟩ a b=_ from aIm h2]
      refine vgo aCg Tryz.func89 ?_
      repeat' first|refine sV ⟨?_⟩|refine sq (λh=>⟨?_⟩) λh=>⟨?_⟩|fail
      all_goals (conv=>whnf)
      all_goals first|exact ⟨_,aAf rfl rfl,rfl⟩|exact ⟨_,aAf ⟨1,rfl⟩ rfl,rfl⟩|exact ⟨_,aAf rfl (congrArg AV.bool (by simp [h])),rfl⟩
   case matmul=>
    by_cases h2:a.length=2/\b.length=2
    · obtain ⟨ha2,hb2⟩:=h2
      obtain ⟨p,q,rfl⟩:=aKw ha2
      obtain ⟨r,s,rfl⟩:=aKw hb2
      by_cases hqr:q=r
      · rw [show ofZ ⟨Opc.str .matmul,na,nb,name,shape,k,n,data⟩ [p,q] [r,s]=([p,s],true) from if_pos hqr]
        refine vgo aCg Tryz.func89 ?_
        repeat' first|refine sV ⟨?_⟩|refine sq (λh=>⟨?_⟩) λh=>⟨?_⟩|fail
        refine ⟨by decide +kernel,[0,1,3,7,15,31,63,127,255,511,1023,2047,511,4607,12799,32767,65535],by decide +kernel,?_⟩
        repeat' first|refine sV ⟨?_⟩|refine sq (λh=>⟨?_⟩) λh=>⟨?_⟩|fail
        refine ⟨by decide +kernel,[0,1,3,0,8,24,63,127,255],by decide +kernel,?_⟩
        repeat' first|refine sV ⟨?_⟩|refine sq (λh=>⟨?_⟩) λh=>⟨?_⟩|fail
        all_goals (conv=>whnf)
        all_goals first|exact ⟨_,aAf rfl rfl,rfl⟩|exact ⟨_,aAf ⟨1,rfl⟩ rfl,rfl⟩|exact ⟨_,aAf rfl (congrArg AV.bool (by simp [h])),rfl⟩
      · rw [show ofZ ⟨Opc.str .matmul,na,nb,name,shape,k,n,data⟩ [p,q] [r,s]=([],false) from if_neg hqr]
        refine vgo aCg Tryz.func89 ?_
        repeat' first|refine sV ⟨?_⟩|refine sq (λh=>⟨?_⟩) λh=>⟨?_⟩|fail
        refine ⟨by decide +kernel,[0,1,3,7,15,31,63,127,255,511,1023,2047,511,4607,12799,32767,65535],by decide +kernel,?_⟩
        repeat' first|refine sV ⟨?_⟩|refine sq (λh=>⟨?_⟩) λh=>⟨?_⟩|fail
        all_goals (conv=>whnf)
        all_goals first|exact ⟨_,aAf rfl rfl,rfl⟩|exact ⟨_,aAf ⟨1,rfl⟩ rfl,rfl⟩|exact ⟨_,aAf rfl (congrArg AV.bool (by simp [h])),rfl⟩
    · rw [show ofZ ⟨Opc.str .matmul,na,nb,name,shape,k,n,data⟩ a b=_ from aKd λh=>h2 ⟨h.1,h.2.1⟩]
      refine vgo aCg Tryz.func89 ?_
      repeat' first|refine sV ⟨?_⟩|refine sq (λh=>⟨?_⟩) λh=>⟨?_⟩|fail
      refine ⟨by decide +kernel,[0,1,3,7,15,31,63,127,255,511,1023,2047,511,4607,12799,32767,65535],by decide +kernel,?_⟩
      repeat' first|refine sV ⟨?_⟩|refine sq (λh=>⟨?_⟩) λh=>⟨?_⟩|fail
      all_goals (conv=>whnf)
      all_goals first|exact ⟨_,aAf rfl rfl,rfl⟩|exact ⟨_,aAf ⟨1,rfl⟩ rfl,rfl⟩|exact ⟨_,aAf rfl (congrArg AV.bool (by simp [h])),rfl⟩
 · rw [bSo hn]
   have kk:=bF3 hn
   have k0:¬op=aA0:=kk .const
   have k1:¬op=bBe:=kk .add
   have k2:¬op=bI2:=kk .sub
   have k3:¬op=bI1:=kk .mul
   have k4:¬op=aXv:=kk .max
   have k5:¬op=aHy:=kk .above
   have k6:¬op=aJo:=kk .matmul
   have k7:¬op=aMk:=kk .relu
   have k8:¬op=bGj:=kk .abs
   have k9:¬op=aXj:=kk .step
   have k10:¬op=aXi:=kk .sign
   have k11:¬op=aB4:=kk .scale
   have k12:¬op=aCn:=kk .power
   have k13:¬op=aF1:=kk .transpose
   have k14:¬op=bPc:=kk .sum
   have k15:¬op=aE7:=kk .reshape
   have k16:¬op=aGi:=kk .spread
   refine vgo aCg Tryz.func89 ?_
   repeat' first|refine sV ⟨?_⟩|refine sq (λh=>⟨?_⟩) λh=>⟨?_⟩|fail
   all_goals (conv=>whnf)
   all_goals first|exact ⟨_,aAf rfl rfl,rfl⟩|exact ⟨_,aAf ⟨1,rfl⟩ rfl,rfl⟩|exact ⟨_,aAf rfl (congrArg AV.bool (by simp [h])),rfl⟩
end Go.V
namespace Go.V
open Go.N Go.Proofs
set_option maxRecDepth 20000
def bQt:Tab:=[(34,i34),(9,i9),(4,i4),(3,i3),(22,i22),(27,i27)]
theorem aEa:TOK Tryz.prog bQt:=⟨K34,⟨K9,⟨K4,⟨K3,⟨K22,⟨K27,trivial⟩⟩⟩⟩⟩⟩
theorem aGu (gl:Gl) (l:List Int) (hll:l.length<1000000):aAc Tryz.prog gl 91 [.ro 1 (aAh l)] (λx=>x= .ro 1 (aAh l)):=
 aAc.taken ((aVn gl l hll).mono λx hx=>by
  rcases hx with rfl|⟨rfl,rfl⟩
  · exact ⟨_,rfl,rfl⟩
  · exact ⟨_,(show aC7 .nils (.ro 1 []) from ⟨1,rfl⟩),rfl⟩)
theorem z1 {s:List Int}{ok:Bool}(h:(!ok)=true):okZ (s,ok)=none:=by simp at h;simp [okZ,h]
theorem z2 {s:List Int}{ok:Bool}(h:(!aAl s)=true):okZ (s,ok)=none:=by simp at h;simp [okZ,h]
theorem z3 {s:List Int}{ok:Bool}(h1:(!ok)=false) (h:(!aAl s)=false):okZ (s,ok)=some s:=by simp at h h1;simp [okZ,h,h1]
set_option maxHeartbeats 4000000 in
theorem bRq (l:List Nd) (x:Nd) (hx:x.Sm) (hl:∀y∈l,y.Sm) (hll:l.length<=1000):
 aAc Tryz.prog GL 44 [.ro 8 (aAv l),.agg x.cells] (λy=>y= .tup [.ro 1 (aAh ((aCu l x).getD [])),.bool (aCu l x).isSome]):=by
 obtain ⟨op,a,b,name,shape,k,n,data⟩:=x
 have hp:=bRr GL op
 have hlr:(aAv l).length=l.length:=rowN_length l
 refine aAc.taken ?_
 cases hop:aBh op with
 |none=>
  rw [aK9 hop]
  rw [aEe,hop] at hp
  refine vgo aEa Tryz.func44 ?_
  repeat' first|refine sV ⟨?_⟩|refine sq (λh=>⟨?_⟩) λh=>⟨?_⟩|fail
  all_goals (conv=>whnf)
  all_goals exact ⟨_,aAf (show aC7 .nils (.ro 1 []) from ⟨1,rfl⟩) rfl,rfl⟩
 |some m=>
  rw [aEe,hop] at hp
  have hm:=aNi hop
  have hb:=bVy GL ⟨op,a,b,name,shape,k,n,data⟩ m hx hm
  have hfe:aN8 l ⟨op,a,b,name,shape,k,n,data⟩ m=(aTq ⟨op,a,b,name,shape,k,n,data⟩ m && ((decide (m=0) || inR a l) && (decide (m<2) || inR b l))):=rfl
  cases hbr:aTq ⟨op,a,b,name,shape,k,n,data⟩ m with
  |false=>
   rw [aEd hop (by rw [hfe,hbr];rfl)]
   rw [hbr] at hb
   refine vgo aEa Tryz.func44 ?_
   repeat' first|refine sV ⟨?_⟩|refine sq (λh=>⟨?_⟩) λh=>⟨?_⟩|fail
   all_goals (conv=>whnf)
   all_goals exact ⟨_,aAf (show aC7 .nils (.ro 1 []) from ⟨1,rfl⟩) rfl,rfl⟩
  |true=>
   rw [hbr] at hb hfe
   have h3:m=0\/m=1\/m=2:=by omega
   rcases h3 with rfl|rfl|rfl
   · have hf:aN8 l ⟨op,a,b,name,shape,k,n,data⟩ 0=true:=hfe
     rw [aEo hop hf]
     rw [if_pos rfl,if_pos (by omega)]
     have hof:=bVz ⟨op,a,b,name,shape,k,n,data⟩ [] [] hx (by simp) (by simp)
     have hlen:=bD4 (x:=⟨op,a,b,name,shape,k,n,data⟩) (a:=[]) (b:=[]) hx (by simp) (by simp)
     generalize ofZ ⟨op,a,b,name,shape,k,n,data⟩ [] []=r at hof hlen ⊢
     obtain ⟨s,ok⟩:=r
     have hsr:=aCb GL s (by dsimp only at hlen;omega)
     have hcl:=aGu GL s (by dsimp only at hlen;omega)
     dsimp only at hof
     refine vgo aEa Tryz.func44 ?_
     repeat' first|refine sV ⟨?_⟩|refine sq (λh=>⟨?_⟩) λh=>⟨?_⟩|fail
     all_goals (conv=>whnf)
     all_goals first|exact ⟨_,aAf (show aC7 .nils (.ro 1 []) from ⟨1,rfl⟩) rfl,by rw [z1 h];rfl⟩|exact ⟨_,aAf (show aC7 .nils (.ro 1 []) from ⟨1,rfl⟩) rfl,by rw [z2 h];rfl⟩|exact ⟨_,aAf rfl rfl,by rw [z3 (by assumption) h];rfl⟩
   · cases ha:inR a l with
     |false=>
      rw [aEd hop (by rw [hfe,ha];rfl)]
      have:=aQl ha
      refine vgo aEa Tryz.func44 ?_
      repeat' first|refine sV ⟨?_⟩|refine sq (λh=>⟨?_⟩) λh=>⟨?_⟩|fail
      all_goals (conv=>whnf)
      all_goals exact ⟨_,aAf (show aC7 .nils (.ro 1 []) from ⟨1,rfl⟩) rfl,rfl⟩
     |true=>
      have hf:aN8 l ⟨op,a,b,name,shape,k,n,data⟩ 1=true:=by rw [hfe,ha];rfl
      obtain ⟨i,hi1,hi2⟩:=aBc ha
      subst hi1
      have g:=aB1 hi2
      have hs:=(hl _ (List.getElem_mem hi2)).shape
      rw [aEo hop hf]
      rw [if_neg (by omega),if_pos (by omega)];dsimp only;rw [aAp hi2]
      have hof:=bVz ⟨op,(i:Int),b,name,shape,k,n,data⟩ l[i].shape [] hx (by assumption) (by simp)
      have hlen:=bD4 (x:=⟨op,(i:Int),b,name,shape,k,n,data⟩) (a:=l[i].shape) (b:=[]) hx (by assumption) (by simp)
      generalize ofZ ⟨op,(i:Int),b,name,shape,k,n,data⟩ l[i].shape []=r at hof hlen ⊢
      obtain ⟨s,ok⟩:=r
      have hsr:=aCb GL s (by dsimp only at hlen;omega)
      have hcl:=aGu GL s (by dsimp only at hlen;omega)
      dsimp only at hof
      refine vgo aEa Tryz.func44 ?_
      repeat' first|refine sV ⟨?_⟩|refine sq (λh=>⟨?_⟩) λh=>⟨?_⟩|fail
      all_goals (conv=>whnf)
      all_goals first|exact ⟨_,aAf (show aC7 .nils (.ro 1 []) from ⟨1,rfl⟩) rfl,by rw [z1 h];rfl⟩|exact ⟨_,aAf (show aC7 .nils (.ro 1 []) from ⟨1,rfl⟩) rfl,by rw [z2 h];rfl⟩|exact ⟨_,aAf rfl rfl,by rw [z3 (by assumption) h];rfl⟩
   · cases ha:inR a l with
     |false=>
      rw [aEd hop (by rw [hfe,ha];rfl)]
      have:=aQl ha
      refine vgo aEa Tryz.func44 ?_
      repeat' first|refine sV ⟨?_⟩|refine sq (λh=>⟨?_⟩) λh=>⟨?_⟩|fail
      all_goals (conv=>whnf)
      all_goals exact ⟨_,aAf (show aC7 .nils (.ro 1 []) from ⟨1,rfl⟩) rfl,rfl⟩
     |true=>
      obtain ⟨i,hi1,hi2⟩:=aBc ha
      subst hi1
      cases hbn:inR b l with
      |false=>
       rw [aEd hop (by rw [hfe,ha,hbn];rfl)]
       have:=aQl hbn
       refine vgo aEa Tryz.func44 ?_
       repeat' first|refine sV ⟨?_⟩|refine sq (λh=>⟨?_⟩) λh=>⟨?_⟩|fail
       all_goals (conv=>whnf)
       all_goals exact ⟨_,aAf (show aC7 .nils (.ro 1 []) from ⟨1,rfl⟩) rfl,rfl⟩
      |true=>
       have hf:aN8 l ⟨op,(i:Int),b,name,shape,k,n,data⟩ 2=true:=by rw [hfe,ha,hbn];rfl
       obtain ⟨j,hj1,hj2⟩:=aBc hbn
       subst hj1
       have g:=aB1 hi2
       have g2:=aB1 hj2
       have hs:=(hl _ (List.getElem_mem hi2)).shape
       have hs2:=(hl _ (List.getElem_mem hj2)).shape
       rw [aEo hop hf]
       rw [if_neg (by omega),if_neg (by omega)];dsimp only;rw [aAp hi2,aAp hj2]
       have hof:=bVz ⟨op,(i:Int),(j:Int),name,shape,k,n,data⟩ l[i].shape l[j].shape hx (by exact hs) (by exact hs2)
       have hlen:=bD4 (x:=⟨op,(i:Int),(j:Int),name,shape,k,n,data⟩) (a:=l[i].shape) (b:=l[j].shape) hx (by exact hs) (by exact hs2)
       generalize ofZ ⟨op,(i:Int),(j:Int),name,shape,k,n,data⟩ l[i].shape l[j].shape=r at hof hlen ⊢
       obtain ⟨s,ok⟩:=r
       have hsr:=aCb GL s (by dsimp only at hlen;omega)
       have hcl:=aGu GL s (by dsimp only at hlen;omega)
       dsimp only at hof
       refine vgo aEa Tryz.func44 ?_
       repeat' first|refine sV ⟨?_⟩|refine sq (λh=>⟨?_⟩) λh=>⟨?_⟩|fail
       all_goals (conv=>whnf)
       all_goals first|exact ⟨_,aAf (show aC7 .nils (.ro 1 []) from ⟨1,rfl⟩) rfl,by rw [z1 h];rfl⟩|exact ⟨_,aAf (show aC7 .nils (.ro 1 []) from ⟨1,rfl⟩) rfl,by rw [z2 h];rfl⟩|exact ⟨_,aAf rfl rfl,by rw [z3 (by assumption) h];rfl⟩
end Go.V
namespace Go.V
open Go.N Go.Proofs
set_option maxRecDepth 20000
variable (gl:Gl)
def bCo:Tab:=[(34,i34),(9,i9),(3,i3),(22,i22),(4,i4),(32,i32),(27,i27),(124,cTu)]
theorem aAe:TOK Tryz.prog bCo:=⟨K34,⟨K9,⟨K3,⟨K22,⟨K4,⟨K32,⟨K27,⟨cTv,trivial⟩⟩⟩⟩⟩⟩⟩⟩
end Go.V
