/-
  Lemmas (part 3) for: the statement.
-/
import Derived.Test.YtphnnbfgiomaoaaGreatDoorFive2
import Derived.Lib.Bytealg
import Derived.Laws.Externs
set_option linter.all false
namespace Go.V
open Go.N Go.Proofs
variable (gl:Gl)
def bK6:Tab:=[(9,i9),(3,i3),(27,i27)]
theorem bBx:TOK Tryz.prog bK6:=⟨K9,⟨K3,⟨K27,trivial⟩⟩⟩
set_option maxHeartbeats 2000000 in
theorem aIz (m n:Nat) (hmn:n<=m) (hn:(dec m).length<2000000):aAc Tryz.prog gl 182 [.str (aAx m),.str (aAx n)] (λx=>x= .str (aAx (m - n))):=by
 refine vgo bBx Tryz.func182 ?_
 have hz:=aAq m
 have hz2:(dec n).length<=(dec m).length:=by
  by_cases h:(dec m).length<(dec n).length
  · have:=aFt h;omega
  · omega
 repeat' first|refine sW ⟨?_⟩|(refine sp ?_ ?_<;>refine λh=>⟨?_⟩)|fail
 refine ⟨[0,1,5,6,7],[],λk st=>∃(i:Nat) (L:List Nat) (c:Nat),i<=(dec m).length/\k=(dec m).length - i/\L.length=i/\(∀ x∈L,x<10)/\c<=1/\m % 10 ^ i+c*10 ^ i=n % 10 ^ i+aFr L/\
  ((i=0/\L=[]/\st=⟨[(0,.str (aAx m)),(1,.str (aAx n)),(5,.nils),(6,.int .i64 (c:Nat)),(7,.int .i64 (i:Nat))],[]⟩)\/
  (st=⟨[(0,.str (aAx m)),(1,.str (aAx n)),(5,.own 0 0 (aFn L).length),(6,.int .i64 (c:Nat)),(7,.int .i64 (i:Nat))],[.row false 3 1 (aFn L)]⟩)),rfl,
  ⟨(dec m).length,0,[],0,by omega,rfl,rfl,by simp,by omega,by simp [aFr,Nat.mod_one],.inl ⟨rfl,rfl,rfl⟩⟩,?_⟩
 rintro k _ ⟨i,L,c,hi,hk,hLi,hL,hc,hs,⟨hi0,hL0,rfl⟩|rfl⟩
 · repeat' first|refine sW ⟨?_⟩|(refine sp ?_ ?_<;>refine λh=>⟨?_⟩)|fail
   refine .inl ⟨_,aCq gl m i (by omega) (by omega),?_⟩
   rintro _ rfl
   repeat' first|refine sW ⟨?_⟩|(refine sp ?_ ?_<;>refine λh=>⟨?_⟩)|fail
   refine .inl ⟨_,aCq gl n i (by omega) (by omega),?_⟩
   rintro _ rfl
   have h1:=aI5 m i
   have h2:=aI5 n i
   have s1:=aFv m i
   have s2:=aFv n i
   have hp:10 ^ (i+1)=10 ^ i*10:=Nat.pow_succ ..
   have la:∀x,aFr (L++[x])=aFr L+10 ^ i*x:=λx=>by rw [aDo,hLi]
   have ld:∀x,x<10->∀y∈L++[x],y<10:=λx hx y hy=>by
    simp only [List.mem_append,List.mem_singleton] at hy
    rcases hy with hy|rfl
    · exact hL y hy
    · exact hx
   have fin:dig m i<dig n i+c->m % 10 ^ (i+1)+1*10 ^ (i+1)=n % 10 ^ (i+1)+aFr (L++[dig m i+10 - dig n i - c]):=λh=>by
    rw [s1,s2,hp,la]
    have:10 ^ i*(dig m i+10 - dig n i - c)+10 ^ i*dig n i+c*10 ^ i=10 ^ i*dig m i+10 ^ i*10:=by
     rw [Nat.mul_comm c,<-Nat.mul_add,<-Nat.mul_add,<-Nat.mul_add];congr 1;omega
    omega
   have fin2:¬dig m i<dig n i+c->m % 10 ^ (i+1)+0*10 ^ (i+1)=n % 10 ^ (i+1)+aFr (L++[dig m i - dig n i - c]):=λh=>by
    rw [s1,s2,la]
    have:10 ^ i*(dig m i - dig n i - c)+10 ^ i*dig n i+c*10 ^ i=10 ^ i*dig m i:=by
     rw [Nat.mul_comm c,<-Nat.mul_add,<-Nat.mul_add];congr 1;omega
    omega
   repeat' first|refine sW ⟨?_⟩|(refine sp ?_ ?_<;>refine λh=>⟨?_⟩)|fail
   · conv=>whnf
     refine ⟨Nat.le_of_ble_eq_true rfl,List.cons_ne_nil _ _,?_⟩
     repeat' first|refine sW ⟨?_⟩|(refine sp ?_ ?_<;>refine λh=>⟨?_⟩)|fail
     refine ⟨[1],(dec m).length - (i+1),rfl,by omega,i+1,_,1,by omega,rfl,by simp [hLi],ld _ (by omega),by omega,fin (by omega),.inr ?_⟩
     have he:aFn (L++[dig m i+10 - dig n i - c])=[[.int .i64 ((dig m i:Int) - (dig n i:Nat) - (c:Nat)+10)]]:=by rw [hL0];exact bFk _ (by omega)
     exact Eq.trans rfl (congrArg (λr:List (List AV)=>(⟨[(0,.str (aAx m)),(1,.str (aAx n)),(5,.own 0 0 r.length),(6,.int .i64 ((1:Nat):Int)),(7,.int .i64 ((i+1:Nat):Int))],[.row false 3 1 r]⟩:St)) he.symm)
   · conv=>whnf
     refine ⟨Nat.le_of_ble_eq_true rfl,List.cons_ne_nil _ _,?_⟩
     repeat' first|refine sW ⟨?_⟩|(refine sp ?_ ?_<;>refine λh=>⟨?_⟩)|fail
     refine ⟨[1],(dec m).length - (i+1),rfl,by omega,i+1,_,0,by omega,rfl,by simp [hLi],ld _ (by omega),by omega,fin2 (by omega),.inr ?_⟩
     have he:aFn (L++[dig m i - dig n i - c])=[[.int .i64 ((dig m i:Int) - (dig n i:Nat) - (c:Nat))]]:=by rw [hL0];exact bFk _ (by omega)
     exact Eq.trans rfl (congrArg (λr:List (List AV)=>(⟨[(0,.str (aAx m)),(1,.str (aAx n)),(5,.own 0 0 r.length),(6,.int .i64 ((0:Nat):Int)),(7,.int .i64 ((i+1:Nat):Int))],[.row false 3 1 r]⟩:St)) he.symm)
   · have:=List.length_pos_iff.2 (aEt m)
     omega
 · repeat' first|refine sW ⟨?_⟩|(refine sp ?_ ?_<;>refine λh=>⟨?_⟩)|fail
   refine .inl ⟨_,aCq gl m i (by omega) (by omega),?_⟩
   rintro _ rfl
   repeat' first|refine sW ⟨?_⟩|(refine sp ?_ ?_<;>refine λh=>⟨?_⟩)|fail
   refine .inl ⟨_,aCq gl n i (by omega) (by omega),?_⟩
   rintro _ rfl
   have h1:=aI5 m i
   have h2:=aI5 n i
   have s1:=aFv m i
   have s2:=aFv n i
   have hp:10 ^ (i+1)=10 ^ i*10:=Nat.pow_succ ..
   have la:∀x,aFr (L++[x])=aFr L+10 ^ i*x:=λx=>by rw [aDo,hLi]
   have ld:∀x,x<10->∀y∈L++[x],y<10:=λx hx y hy=>by
    simp only [List.mem_append,List.mem_singleton] at hy
    rcases hy with hy|rfl
    · exact hL y hy
    · exact hx
   have fin:dig m i<dig n i+c->m % 10 ^ (i+1)+1*10 ^ (i+1)=n % 10 ^ (i+1)+aFr (L++[dig m i+10 - dig n i - c]):=λh=>by
    rw [s1,s2,hp,la]
    have:10 ^ i*(dig m i+10 - dig n i - c)+10 ^ i*dig n i+c*10 ^ i=10 ^ i*dig m i+10 ^ i*10:=by
     rw [Nat.mul_comm c,<-Nat.mul_add,<-Nat.mul_add,<-Nat.mul_add];congr 1;omega
    omega
   have fin2:¬dig m i<dig n i+c->m % 10 ^ (i+1)+0*10 ^ (i+1)=n % 10 ^ (i+1)+aFr (L++[dig m i - dig n i - c]):=λh=>by
    rw [s1,s2,la]
    have:10 ^ i*(dig m i - dig n i - c)+10 ^ i*dig n i+c*10 ^ i=10 ^ i*dig m i:=by
     rw [Nat.mul_comm c,<-Nat.mul_add,<-Nat.mul_add];congr 1;omega
    omega
   repeat' first|refine sW ⟨?_⟩|(refine sp ?_ ?_<;>refine λh=>⟨?_⟩)|fail
   · conv=>whnf
     refine ⟨Nat.le_refl _,(show (_+1)*8<=_ by simp;omega),_,aT6 L (dig m i+10 - dig n i - c) (e:=(dig m i:Int) - (dig n i:Nat) - (c:Nat)+10) (by omega),?_⟩
     repeat' first|refine sW ⟨?_⟩|(refine sp ?_ ?_<;>refine λh=>⟨?_⟩)|fail
     refine ⟨[2],(dec m).length - (i+1),rfl,by omega,i+1,_,1,by omega,rfl,by simp [hLi],ld _ (by omega),by omega,fin (by omega),.inr ?_⟩
     rfl
   · conv=>whnf
     refine ⟨Nat.le_refl _,(show (_+1)*8<=_ by simp;omega),_,aT6 L (dig m i - dig n i - c) (e:=(dig m i:Int) - (dig n i:Nat) - (c:Nat)) (by omega),?_⟩
     repeat' first|refine sW ⟨?_⟩|(refine sp ?_ ?_<;>refine λh=>⟨?_⟩)|fail
     refine ⟨[2],(dec m).length - (i+1),rfl,by omega,i+1,_,0,by omega,rfl,by simp [hLi],ld _ (by omega),by omega,fin2 (by omega),.inr ?_⟩
     rfl
   · have hlt:=aHr m
     have hi2:i=(dec m).length:=by omega
     rw [<- hi2] at hlt
     rw [Nat.mod_eq_of_lt hlt,Nat.mod_eq_of_lt (by omega)] at hs
     have hl:=bNp hL
     rw [hLi] at hl
     have hc0:c=0:=by
      rcases Nat.lt_or_ge c 1 with h|h
      · omega
      · obtain rfl:c=1:=by omega
        omega
     subst hc0
     have e:aFr L=m - n:=by omega
     conv=>whnf
     have hcall:=aVv gl L hL (by omega)
     rw [<- List.take_length (l:=aFn L),<-List.drop_zero (l:=aFn L),e] at hcall
     refine .inl ⟨_,hcall,?_⟩
     rintro _ rfl
     repeat' first|refine sW ⟨?_⟩|(refine sp ?_ ?_<;>refine λh=>⟨?_⟩)|fail
     conv=>whnf
     rfl
end Go.V
namespace Go.V
open Go.N Go.Proofs
variable (gl:Gl)
def bK3:Tab:=[(9,i9),(3,i3),(5,i5),(143,cXr)]
theorem bBu:TOK Tryz.prog bK3:=⟨K9,⟨K3,⟨K5,⟨cX1,trivial⟩⟩⟩⟩
def bK4:Tab:=[(9,i9)]
theorem bBv:TOK Tryz.prog bK4:=⟨K9,trivial⟩
set_option maxHeartbeats 2000000 in
theorem aPx (m n:Nat) (hn0:0<n) (hm:(dec m).length<1000000) (hn:(dec n).length<1000000):aAc Tryz.prog gl 177 [.str (aAx m),.str (aAx n)] (λx=>x= .tup [.str (aAx (m / n)),.str (aAx (m % n))]):=by
 refine vgo bBu Tryz.func177 ?_
 have hz:=aAq m
 have hzn:=aAq n
 repeat' first|refine sW ⟨?_⟩|(refine sp ?_ ?_<;>refine λh=>⟨?_⟩)|fail
 refine ⟨[0,1,6,7,8],[],λk st=>∃(i:Nat) (q:ByteArray) (r:Nat),i<=(dec m).length/\k=(dec m).length - i/\q.toList.all aCe=true/\q.size=i/\r<n/\aC8 ((dec m).take i)=aC8 q.toList*n+r/\
  st=⟨[(0,.str (aAx m)),(1,.str (aAx n)),(6,.str q),(7,.str (aAx r)),(8,.int .i64 (i:Nat))],[]⟩,rfl,
  ⟨(dec m).length,0,⟨#[]⟩,0,by omega,rfl,by rw [ByteArray.toList_eq];rfl,rfl,hn0,by rw [ByteArray.toList_eq];simp [aC8],by rw [<- aB8];rfl⟩,?_⟩
 rintro k _ ⟨i,q,r,hi,hk,hq,hqi,hr,hv,rfl⟩
 have hzr:=aAq r
 have hrn:(dec r).length<=(dec n).length:=aBw (by omega)
 repeat' first|refine sW ⟨?_⟩|(refine sp ?_ ?_<;>refine λh=>⟨?_⟩)|fail
 · have hlt:i<(dec m).length:=by omega
   have hs:((aAx m).extract (i:Int).toNat ((i:Int)+1).toNat).toList=[(dec m)[i]]:=by
    rw [aB3,aAu,show (i:Int).toNat=i by omega,show ((i:Int)+1).toNat=i+1 by omega,show i+1 - i=1 by omega,List.drop_eq_getElem_cons hlt];rfl
   have hsz:((aAx m).extract (i:Int).toNat ((i:Int)+1).toNat).size=1:=by rw [<- Go.N.len_toList,hs];rfl
   have hdg:aCe (dec m)[i]=true:=List.all_eq_true.1 (aH8 m) _ (List.getElem_mem hlt)
   refine ⟨by omega,?_⟩
   repeat' first|refine sW ⟨?_⟩|(refine sp ?_ ?_<;>refine λh=>⟨?_⟩)|fail
   have hdg':=hdg
   simp only [aCe,Bool.and_eq_true,decide_eq_true_eq] at hdg'
   have hP:=aH6 gl (aAx r++(aAx m).extract (i:Int).toNat ((i:Int)+1).toNat) (by rw [aJz,List.all_append,aV0,hs];simp [hdg]) (by rw [ByteArray.size_append];omega)
   have hv2:=aQd (dec m) i hlt
   rw [aJz,hs,aEy,aF7] at hP
   generalize (dec m)[i]=c at hP hv2 hdg'
   have hr0:10*r+(c.toNat - 48)<10*n:=by omega
   have hpv:aC8 ((dec m).take (i+1))=aC8 q.toList*(10*n)+(10*r+(c.toNat - 48)):=by
    rw [hv2,hv,Nat.mul_add,<-Nat.mul_assoc,Nat.mul_comm 10 (aC8 _),Nat.mul_assoc];omega
   clear hv2 hs hsz hdg hv
   generalize 10*r+(c.toNat - 48)=r0 at hr0 hP hpv
   refine .inl ⟨_,hP,?_⟩
   rintro _ rfl
   repeat' first|refine sW ⟨?_⟩|(refine sp ?_ ?_<;>refine λh=>⟨?_⟩)|fail
   conv=>whnf
   refine ⟨[0,1,6,7,8,9],[],λk st=>∃(d r':Nat),r0=d*n+r'/\k=r'/\st=⟨[(0,.str (aAx m)),(1,.str (aAx n)),(6,.str q),(7,.str (aAx r')),(8,.int .i64 (i:Nat)),(9,.int .i64 (d:Nat))],[]⟩,rfl,
    ⟨r0,0,r0,by omega,rfl,rfl⟩,?_⟩
   rintro k2 _ ⟨d,r',hd,hk2,rfl⟩
   have hd9:d<10:=by
    rcases Nat.lt_or_ge d 10 with h|h
    · exact h
    · have:=Nat.mul_le_mul_right n h
      omega
   have hr':r'<10*n:=by omega
   have hzr':=aAq r'
   have hrn':=bWc hr' hn0
   repeat' first|refine sW ⟨?_⟩|(refine sp ?_ ?_<;>refine λh=>⟨?_⟩)|fail
   conv=>whnf
   refine .inl ⟨_,aLv gl r' n (by omega) (by omega),?_⟩
   rintro _ rfl
   repeat' first|refine sW ⟨?_⟩|(refine sp ?_ ?_<;>refine λh=>⟨?_⟩)|fail
   · have hle:=aI4.1 h
     conv=>whnf
     refine .inl ⟨_,aIz gl r' n hle (by omega),?_⟩
     rintro _ rfl
     repeat' first|refine sW ⟨?_⟩|(refine sp ?_ ?_<;>refine λh=>⟨?_⟩)|fail
     refine ⟨[],r' - n,rfl,by omega,d+1,r' - n,?_,rfl,rfl⟩
     rw [Nat.add_mul];omega
   · have hlt':r'<n:=by
      rcases Nat.lt_or_ge r' n with g|g
      · exact g
      · exact absurd (aI4.2 g) h
     repeat' first|refine sW ⟨?_⟩|(refine sp ?_ ?_<;>refine λh=>⟨?_⟩)|fail
     conv=>whnf
     refine ⟨[48+(d:Int)],rfl,?_⟩
     have hsn:(sN [48+(d:Int)]).toList=[dg d]:=by
      have:=aR4 [d] (by simpa using hd9)
      simpa using this
     have hsz:(sN [48+(d:Int)]).size=1:=by rw [<- Go.N.len_toList,hsn];rfl
     repeat' first|refine sW ⟨?_⟩|(refine sp ?_ ?_<;>refine λh=>⟨?_⟩)|fail
     conv=>whnf
     refine And.intro (by omega) ?_
     repeat' first|refine sW ⟨?_⟩|(refine sp ?_ ?_<;>refine λh=>⟨?_⟩)|fail
     refine ⟨[],(dec m).length - (i+1),rfl,by omega,i+1,q++sN [48+(d:Int)],r',by omega,rfl,?_,?_,hlt',?_,rfl⟩
     · rw [aJz,hsn,List.all_append,hq];simp [bE8 hd9]
     · rw [ByteArray.size_append];omega
     · rw [hpv,aJz,hsn,aEy,aGw hd9,hd,Nat.mul_comm 10 n,<-Nat.mul_assoc,Nat.mul_comm _ 10,<-Nat.mul_assoc]
       rw [show 48+d - 48=d by omega,Nat.add_mul];omega
 · conv=>whnf
   have e1:i=(dec m).length:=by omega
   rw [List.take_of_length_le (by omega),aJ9] at hv
   have e2:aC8 q.toList=m / n:=by
    rw [hv,Nat.add_comm,Nat.add_mul_div_right _ _ hn0,Nat.div_eq_of_lt hr];omega
   have e3:r=m % n:=by
    rw [hv,Nat.add_comm,Nat.add_mul_mod_self_right,Nat.mod_eq_of_lt hr]
   have hP:=aH6 gl q hq (by omega)
   rw [e2] at hP
   refine .inl ⟨_,hP,?_⟩
   rintro _ rfl
   repeat' first|refine sW ⟨?_⟩|(refine sp ?_ ?_<;>refine λh=>⟨?_⟩)|fail
   conv=>whnf
   rw [<- e3]
   rfl
theorem bM8 (a b:Nat):aAx b=⟨#[48]⟩↔b=0:=by rw [aB8];exact aDu
theorem bMa (m n:Nat) (hm:(dec m).length<1000000) (hn:(dec n).length<1000000):aAc Tryz.prog gl 176 [.str (aAx m),.str (aAx n)] (λx=>x= .str (aAx (Nat.gcd m n))):=by
 refine vgo bBv Tryz.func176 ?_
 repeat' first|refine sW ⟨?_⟩|(refine sp ?_ ?_<;>refine λh=>⟨?_⟩)|fail
 refine ⟨[0,1],[],λk st=>∃a b:Nat,(dec a).length<1000000/\(dec b).length<1000000/\k=b/\Nat.gcd a b=Nat.gcd m n/\st=⟨[(0,.str (aAx a)),(1,.str (aAx b))],[]⟩,rfl,⟨n,m,n,hm,hn,rfl,rfl,rfl⟩,?_⟩
 rintro k _ ⟨a,b,ha,hb,hk,hg,rfl⟩
 repeat' first|refine sW ⟨?_⟩|(refine sp ?_ ?_<;>refine λh=>⟨?_⟩)|fail
 · have hb0:0<b:=Nat.pos_of_ne_zero λe=>h ((bM8 0 b).2 e)
   conv=>whnf
   refine .inl ⟨_,aPx gl a b hb0 ha hb,?_⟩
   rintro _ rfl
   repeat' first|refine sW ⟨?_⟩|(refine sp ?_ ?_<;>refine λh=>⟨?_⟩)|fail
   have hlt:=Nat.mod_lt a hb0
   refine ⟨[],a % b,rfl,by omega,b,a % b,hb,Nat.lt_of_le_of_lt (aBw (by omega)) hb,rfl,?_,rfl⟩
   rw [<- hg,Nat.gcd_comm a b,Nat.gcd_rec b a,Nat.gcd_comm]
 · conv=>whnf
   have hb0:=(bM8 0 b).1 h
   rw [hb0,Nat.gcd_zero_right] at hg
   rw [<- hg]
   rfl
end Go.V
namespace Go.V
open Go.N Go.Proofs
variable (gl:Gl)
def aPj:Tab:=[(9,i9),(3,i3)]
theorem aMu:TOK Tryz.prog aPj:=⟨K9,⟨K3,trivial⟩⟩
def bCb:Tab:=[(9,i9)]
theorem aUz:TOK Tryz.prog bCb:=⟨K9,trivial⟩
def aPi:Tab:=[(9,i9),(4,i4)]
theorem aMt:TOK Tryz.prog aPi:=⟨K9,⟨K4,trivial⟩⟩
def bB8:Tab:=[(9,i9)]
theorem aUx:TOK Tryz.prog bB8:=⟨K9,trivial⟩
def aN6:Tab:=[(9,i9)]
theorem aLi:TOK Tryz.prog aN6:=⟨K9,trivial⟩
def aYl:Tab:=[(9,i9)]
theorem aSn:TOK Tryz.prog aYl:=⟨K9,trivial⟩
def bHo:Tab:=[(9,i9),(3,i3),(5,i5)]
theorem aX8:TOK Tryz.prog bHo:=⟨K9,⟨K3,⟨K5,trivial⟩⟩⟩
def bCi:Tab:=[(9,i9)]
theorem aU6:TOK Tryz.prog bCi:=⟨K9,trivial⟩
def bHn:Tab:=[(9,i9),(5,i5)]
theorem aX7:TOK Tryz.prog bHn:=⟨K9,⟨K5,trivial⟩⟩
def aHf (s p:ByteArray):Bool:=decide (p.size<=s.size) && decide (s.extract 0 p.size=p)
def aCp (s p:ByteArray):ByteArray:=if aHf s p=true then s.extract p.size s.size else s
abbrev aAo:ByteArray:=⟨#[45]⟩
theorem aF5 (s p:ByteArray) (hs:s.size<9000000000) (hp:p.size<9000000000):aAc Tryz.prog gl 201 [.str s,.str p] (λx=>x= .bool (aHf s p)):=by
 refine vgo aMu Tryz.func201 ?_
 repeat' first|refine sW ⟨?_⟩|(refine sp ?_ ?_<;>refine λh=>⟨?_⟩)|fail
 all_goals (conv=>whnf)
 · refine congrArg AV.bool ?_
   have h1:p.size<=s.size:=by omega
   simp [aHf,h1]
 · refine congrArg AV.bool (Eq.symm ?_)
   have h1:¬p.size<=s.size:=by omega
   simp [aHf,h1]
theorem aPq (s p:ByteArray) (hs:s.size<9000000000) (hp:p.size<9000000000):aAc Tryz.prog gl 161 [.str s,.str p] (λx=>x= .bool (aHf s p)):=by
 refine vgo aUz Tryz.func161 ?_
 repeat' first|refine sW ⟨?_⟩|(refine sp ?_ ?_<;>refine λh=>⟨?_⟩)|fail
 conv=>whnf
 refine .inl ⟨_,aF5 gl s p hs hp,?_⟩
 rintro _ rfl
 repeat' first|refine sW ⟨?_⟩|(refine sp ?_ ?_<;>refine λh=>⟨?_⟩)|fail
 conv=>whnf
 rfl
theorem aPv (s p:ByteArray) (hs:s.size<9000000000) (hp:p.size<9000000000):aAc Tryz.prog gl 264 [.str s,.str p] (λx=>x= .tup [.str (aCp s p),.bool (aHf s p)]):=by
 refine vgo aMt Tryz.func264 ?_
 have h1:aHf s p=true->p.size<=s.size:=λh=>by simp only [aHf,Bool.and_eq_true,decide_eq_true_eq] at h;exact h.1
 repeat' first|refine sW ⟨?_⟩|(refine sp ?_ ?_<;>refine λh=>⟨?_⟩)|fail
 conv=>whnf
 refine .inl ⟨_,aF5 gl s p hs hp,?_⟩
 rintro _ rfl
 cases hb:aHf s p
 · repeat' first|refine sW ⟨?_⟩|(refine sp ?_ ?_<;>refine λh=>⟨?_⟩)|fail
   conv=>whnf
   simp [aCp,hb,one]
 · have h2:=h1 hb
   repeat' first|refine sW ⟨?_⟩|(refine sp ?_ ?_<;>refine λh=>⟨?_⟩)|fail
   conv=>whnf
   simp [aCp,hb,one]
theorem bCy (s p:ByteArray) (hs:s.size<9000000000) (hp:p.size<9000000000):aAc Tryz.prog gl 229 [.str s,.str p] (λx=>x= .tup [.str (aCp s p),.bool (aHf s p)]):=by
 refine vgo aUx Tryz.func229 ?_
 repeat' first|refine sW ⟨?_⟩|(refine sp ?_ ?_<;>refine λh=>⟨?_⟩)|fail
 conv=>whnf
 refine .inl ⟨_,aPv gl s p hs hp,?_⟩
 rintro _ rfl
 repeat' first|refine sW ⟨?_⟩|(refine sp ?_ ?_<;>refine λh=>⟨?_⟩)|fail
 conv=>whnf
 rfl
theorem aN7 (s p:ByteArray) (hs:s.size<9000000000) (hp:p.size<9000000000):aAc Tryz.prog gl 237 [.str s,.str p] (λx=>x= .str (aCp s p)):=by
 refine vgo aLi Tryz.func237 ?_
 have h1:aHf s p=true->p.size<=s.size:=λh=>by simp only [aHf,Bool.and_eq_true,decide_eq_true_eq] at h;exact h.1
 repeat' first|refine sW ⟨?_⟩|(refine sp ?_ ?_<;>refine λh=>⟨?_⟩)|fail
 conv=>whnf
 refine .inl ⟨_,aF5 gl s p hs hp,?_⟩
 rintro _ rfl
 cases hb:aHf s p
 · repeat' first|refine sW ⟨?_⟩|(refine sp ?_ ?_<;>refine λh=>⟨?_⟩)|fail
   conv=>whnf
   simp [aCp,hb,one]
 · have h2:=h1 hb
   repeat' first|refine sW ⟨?_⟩|(refine sp ?_ ?_<;>refine λh=>⟨?_⟩)|fail
   conv=>whnf
   simp [aCp,hb,one]
theorem aY6 (s p:ByteArray) (hs:s.size<9000000000) (hp:p.size<9000000000):aAc Tryz.prog gl 203 [.str s,.str p] (λx=>x= .str (aCp s p)):=by
 refine vgo aSn Tryz.func203 ?_
 repeat' first|refine sW ⟨?_⟩|(refine sp ?_ ?_<;>refine λh=>⟨?_⟩)|fail
 conv=>whnf
 refine .inl ⟨_,aN7 gl s p hs hp,?_⟩
 rintro _ rfl
 repeat' first|refine sW ⟨?_⟩|(refine sp ?_ ?_<;>refine λh=>⟨?_⟩)|fail
 conv=>whnf
 rfl
theorem aCx (s:ByteArray):aHf s aAo=decide (s.toList[0]? =some 45):=by
 rw [Bool.eq_iff_iff]
 simp only [aHf,Bool.and_eq_true,decide_eq_true_eq]
 have hl:=Go.N.len_toList s
 constructor
 · rintro ⟨h1,h2⟩
   have h3:=congrArg ByteArray.toList h2
   rw [aB3] at h3
   have e:aAo.toList=[45]:=by rw [ByteArray.toList_eq]
   rw [e] at h3
   have h4:=congrArg (λl:List UInt8=>l[0]?) h3
   simp only [List.drop_zero,List.getElem?_cons_zero] at h4
   rw [List.getElem?_take_of_lt (by decide)] at h4
   exact h4
 · intro h
   have h0:0<s.toList.length:=(List.getElem?_eq_some_iff.1 h).1
   refine ⟨(show 1<=s.size by omega),aBl ?_⟩
   rw [aB3]
   have e:aAo.toList=[45]:=by rw [ByteArray.toList_eq]
   rw [e,List.drop_zero]
   obtain ⟨a,l,hal⟩:=List.exists_cons_of_length_pos h0
   rw [hal] at h ⊢
   simp at h
   rw [h];rfl
theorem aM6 (s:ByteArray) (hs:s.size<9000000000):aAc Tryz.prog gl 173 [.str s] (λx=>x= .str (aCp s aAo)):=by
 refine vgo aX8 Tryz.func173 ?_
 have hl:=Go.N.len_toList s
 have hh:=aCx s
 have key:∀h0:0<s.toList.length,(s.toList[0]? =some 45)↔((s.toList[0].toNat:Nat):Int)=45:=λh0=>by
  rw [List.getElem?_eq_getElem h0,Option.some.injEq,<-UInt8.toNat_inj]
  simp;omega
 repeat' first|refine sW ⟨?_⟩|(refine sp ?_ ?_<;>refine λh=>⟨?_⟩)|fail
 all_goals (conv=>whnf)
 · have hb:aHf s aAo=true:=by rw [hh];exact decide_eq_true ((key (by omega)).2 h)
   refine congrArg AV.str ?_
   rw [aCp,if_pos hb];rfl
 · have hb:¬aHf s aAo=true:=by rw [hh];simp only [decide_eq_true_eq];exact λe=>h ((key (by omega)).1 e)
   refine congrArg AV.str ?_
   rw [aCp,if_neg hb]
 · have hb:¬aHf s aAo=true:=by
    rw [hh];simp only [decide_eq_true_eq]
    intro e
    have:=(List.getElem?_eq_some_iff.1 e).1
    omega
   refine congrArg AV.str ?_
   rw [aCp,if_neg hb]
def aBq (s:ByteArray):Bool:=aEi (aCp s aAo).toList && !decide (s=⟨#[45,48]⟩)
theorem aH0 (s p:ByteArray):(aCp s p).size<=s.size:=by
 unfold aCp;split
 · simp
 · omega
theorem aP0 (s:ByteArray) (hs:s.size<9000000000):aAc Tryz.prog gl 129 [.str s] (λx=>x= .bool (aBq s)):=by
 refine vgo aU6 Tryz.func129 ?_
 have ht:=aH0 s aAo
 repeat' first|refine sW ⟨?_⟩|(refine sp ?_ ?_<;>refine λh=>⟨?_⟩)|fail
 conv=>whnf
 refine .inl ⟨_,aM6 gl s hs,?_⟩
 rintro _ rfl
 repeat' first|refine sW ⟨?_⟩|(refine sp ?_ ?_<;>refine λh=>⟨?_⟩)|fail
 conv=>whnf
 refine .inl ⟨_,aK2 (aCp s aAo) gl (by omega),?_⟩
 rintro _ rfl
 cases hb:aEi (aCp s aAo).toList
 · repeat' first|refine sW ⟨?_⟩|(refine sp ?_ ?_<;>refine λh=>⟨?_⟩)|fail
   conv=>whnf
   simp [aBq,hb,one]
 · repeat' first|refine sW ⟨?_⟩|(refine sp ?_ ?_<;>refine λh=>⟨?_⟩)|fail
   conv=>whnf
   simp [aBq,hb,one]
theorem aM5 (s:ByteArray) (hs:s.size<9000000000) (h0:0<s.size):aAc Tryz.prog gl 174 [.str s] (λx=>x= .int .i64 (if aHf s aAo=true then -1 else if s=aAx 0 then 0 else 1)):=by
 refine vgo aX7 Tryz.func174 ?_
 have hl:=Go.N.len_toList s
 have hh:=aCx s
 have key:∀h0:0<s.toList.length,(s.toList[0]? =some 45)↔((s.toList[0].toNat:Nat):Int)=45:=λh0=>by
  rw [List.getElem?_eq_getElem h0,Option.some.injEq,<-UInt8.toNat_inj]
  simp;omega
 rw [<- aB8]
 generalize hR:(if aHf s aAo=true then (-1:Int) else if s=⟨#[48]⟩ then 0 else 1)=R
 repeat' first|refine sW ⟨?_⟩|(refine sp ?_ ?_<;>refine λh=>⟨?_⟩)|fail
 all_goals (conv=>whnf)
 · have hb:aHf s aAo=true:=by rw [hh];exact decide_eq_true ((key (by omega)).2 h)
   rw [if_pos hb] at hR
   exact congrArg (AV.int .i64) hR
 · have hb:¬aHf s aAo=true:=by rw [hh];simp only [decide_eq_true_eq];exact λe=>absurd ((key (by omega)).1 e) (by assumption)
   rw [if_neg hb,if_pos h] at hR
   exact congrArg (AV.int .i64) hR
 · have hb:¬aHf s aAo=true:=by rw [hh];simp only [decide_eq_true_eq];exact λe=>absurd ((key (by omega)).1 e) (by assumption)
   rw [if_neg hb,if_neg h] at hR
   exact congrArg (AV.int .i64) hR
end Go.V
namespace Go.V
open Go.N Go.Proofs
variable (gl:Gl)
def aOo (c:UInt8):List UInt8->Option Nat
 |[]=>none
 |x::l=>if x=c then some 0 else (aOo c l).map (· +1)
def ixI (o:Option Nat):Int:=match o with|some k=>k|none=>-1
theorem aWc {c:UInt8}:∀{l:List UInt8}{k:Nat},aOo c l=some k->k<l.length
 |[],k,h=>by simp [aOo] at h
 |x::l,k,h=>by
  simp only [aOo] at h
  split at h
  · simp at h;subst h;simp
  · cases hi:aOo c l with
    |none=>rw [hi] at h;simp at h
    |some j=>
     rw [hi] at h;simp at h;subst h
     have:=aWc hi
     simp;omega
theorem bFl (c:UInt8):∀l:List UInt8,Lib.indexByte l c=ixI (aOo c l)
 |[]=>rfl
 |x::l=>by
  have ih:=bFl c l
  simp only [Lib.indexByte,aOo,ih]
  by_cases h:x=c
  · simp [h,ixI]
  · have hb:(x == c)=false:=by simpa using h
    simp only [hb,h,if_false,Bool.false_eq_true]
    cases hi:aOo c l with
    |none=>simp [ixI]
    |some j=>
     show (if ((j:Int) == -1)=true then (-1:Int) else (j:Int)+1)=((j+1:Nat):Int)
     have e:((j:Int) == -1)=false:=by rw [beq_eq_false_iff_ne];omega
     rw [e];simp
theorem aM1 (s:ByteArray) (c:Int):aAc Tryz.prog gl 281 [.str s,.int .u8 c] (λx=>x= .int .i64 (ixI (aOo c.toNat.toUInt8 s.toList))):=by
 intro S w vs hS hgl h
 simp only [aAt,aAi] at h
 obtain ⟨v1,r1,rfl,rfl,v2,r2,rfl,rfl,rfl⟩:=h
 refine .inr (.inl ⟨Value.int .i64 (ixI (aOo c.toNat.toUInt8 s.toList)),w,?_,⟨_,rfl,⟨S,[],?_,by simp,by simp,λb hb=>⟨hS b hb,.inl hb⟩⟩,⟨rfl,rfl,rfl,Nat.le_refl _,λ_ _=>rfl⟩⟩⟩)
 · rw [run_callFunc_extern Tryz.func281 (by kernel_rfl) (by kernel_rfl) (by kernel_rfl) (e:=Extern.BytealgIndexByte.indexByte) (by kernel_rfl),Lib.run_indexByteString]
   simp only [Result.andThen,bFl,ByteArray.toList_eq]
 · simp only [aDw,aAi]
   exact ⟨trivial,trivial⟩
def aPk:Tab:=[(9,i9),(5,i5)]
theorem aMv:TOK Tryz.prog aPk:=⟨K9,⟨K5,trivial⟩⟩
def bCe:Tab:=[(9,i9),(3,i3),(5,i5)]
theorem aU2:TOK Tryz.prog bCe:=⟨K9,⟨K3,⟨K5,trivial⟩⟩⟩
def bK1:Tab:=[(9,i9),(3,i3)]
theorem bBr:TOK Tryz.prog bK1:=⟨K9,⟨K3,trivial⟩⟩
def cBt:Tab:=[(9,i9)]
theorem bUo:TOK Tryz.prog cBt:=⟨K9,trivial⟩
theorem aPw (s:ByteArray) (c:Int):aAc Tryz.prog gl 260 [.str s,.int .u8 c] (λx=>x= .int .i64 (ixI (aOo c.toNat.toUInt8 s.toList))):=by
 refine vgo aMv Tryz.func260 ?_
 repeat' first|refine sW ⟨?_⟩|(refine sp ?_ ?_<;>refine λh=>⟨?_⟩)|fail
 conv=>whnf
 refine .inl ⟨_,aM1 gl s c,?_⟩
 rintro _ rfl
 repeat' first|refine sW ⟨?_⟩|(refine sp ?_ ?_<;>refine λh=>⟨?_⟩)|fail
 conv=>whnf
 rfl
abbrev aGj:ByteArray:=⟨#[47]⟩
theorem aUr:aGj.toList=[47]:=by rw [ByteArray.toList_eq]
theorem bDg (s:ByteArray) (hs:s.size<9000000000):aAc Tryz.prog gl 228 [.str s,.str aGj] (λx=>x= .int .i64 (ixI (aOo 47 s.toList))):=by
 refine vgo aU2 Tryz.func228 ?_
 repeat' first|refine sW ⟨?_⟩|(refine sp ?_ ?_<;>refine λh=>⟨?_⟩)|fail
 · conv=>whnf
   rw [<- h,aUr];rfl
 · conv=>whnf
   refine ⟨0,47,rfl,by rw [aUr];rfl,?_⟩
   repeat' first|refine sW ⟨?_⟩|(refine sp ?_ ?_<;>refine λh=>⟨?_⟩)|fail
   conv=>whnf
   refine .inl ⟨_,aPw gl s 47,?_⟩
   rintro _ rfl
   repeat' first|refine sW ⟨?_⟩|(refine sp ?_ ?_<;>refine λh=>⟨?_⟩)|fail
   conv=>whnf
   rfl
def aGo (s:ByteArray):ByteArray×ByteArray×Bool:=
 match aOo 47 s.toList with
 |some k=>(⟨(s.toList.take k).toArray⟩,⟨(s.toList.drop (k+1)).toArray⟩,true)
 |none=>(s,⟨#[]⟩,false)
theorem bL7 (s:ByteArray) (hs:s.size<9000000000):aAc Tryz.prog gl 195 [.str s,.str aGj] (λx=>x= .tup [.str (aGo s).1,.str (aGo s).2.1,.bool (aGo s).2.2]):=by
 refine vgo bBr Tryz.func195 ?_
 have hl:=Go.N.len_toList s
 have hsl:aGj.size=1:=rfl
 have hc:=bDg gl s hs
 cases hi:aOo 47 s.toList with
 |none=>
  have e:aGo s=(s,⟨#[]⟩,false):=by simp only [aGo,hi]
  rw [e]
  rw [hi] at hc
  repeat' first|refine sW ⟨?_⟩|(refine sp ?_ ?_<;>refine λh=>⟨?_⟩)|fail
  conv=>whnf
  refine .inl ⟨_,hc,?_⟩
  rintro _ rfl
  repeat' first|refine sW ⟨?_⟩|(refine sp ?_ ?_<;>refine λh=>⟨?_⟩)|fail
  conv=>whnf
  rfl
 |some k=>
  have hk:=aWc hi
  have e:aGo s=(⟨(s.toList.take k).toArray⟩,⟨(s.toList.drop (k+1)).toArray⟩,true):=by simp only [aGo,hi]
  rw [e]
  rw [hi] at hc
  have hc:aAc Tryz.prog gl 228 [.str s,.str aGj] (λx=>x= .int .i64 ((k:Nat):Int)):=hc
  have e1:s.extract (0:Int).toNat ((k:Nat):Int).toNat=⟨(s.toList.take k).toArray⟩:=by
   refine aBl ?_
   rw [aB3,aDg];simp
  have e2:s.extract ((k:Int)+1).toNat ((s.size:Nat):Int).toNat=⟨(s.toList.drop (k+1)).toArray⟩:=by
   refine aBl ?_
   rw [aB3,show ((k:Int)+1).toNat=k+1 by omega,Int.toNat_natCast,List.take_of_length_le (l:=s.toList.drop (k+1)) (by simp [hl])]
   exact (aDg _).symm
  rw [<- e1,<-e2]
  repeat' first|refine sW ⟨?_⟩|(refine sp ?_ ?_<;>refine λh=>⟨?_⟩)|fail
  conv=>whnf
  refine .inl ⟨_,hc,?_⟩
  rintro _ rfl
  repeat' first|refine sW ⟨?_⟩|(refine sp ?_ ?_<;>refine λh=>⟨?_⟩)|fail
  refine ⟨by decide +kernel,[0,0,3,0,0,0,32,112,248,7,1023,2047],by decide +kernel,?_⟩
  repeat' first|refine sW ⟨?_⟩|(refine sp ?_ ?_<;>refine λh=>⟨?_⟩)|fail
  conv=>whnf
  rfl
theorem cBy (s:ByteArray) (hs:s.size<9000000000):aAc Tryz.prog gl 155 [.str s,.str aGj] (λx=>x= .tup [.str (aGo s).1,.str (aGo s).2.1,.bool (aGo s).2.2]):=by
 refine vgo bUo Tryz.func155 ?_
 repeat' first|refine sW ⟨?_⟩|(refine sp ?_ ?_<;>refine λh=>⟨?_⟩)|fail
 conv=>whnf
 refine .inl ⟨_,bL7 gl s hs,?_⟩
 rintro _ rfl
 repeat' first|refine sW ⟨?_⟩|(refine sp ?_ ?_<;>refine λh=>⟨?_⟩)|fail
 conv=>whnf
 rfl
end Go.V
namespace Go.V
open Go.N Go.Proofs
variable (gl:Gl)
def bU4:Tab:=[(222,cV3),(9,i9),(4,i4)]
theorem bJ9:TOK Tryz.prog bU4:=⟨cWl,⟨K9,⟨K4,trivial⟩⟩⟩
def bQl:Tab:=[(9,i9),(222,cV3)]
theorem bG4:TOK Tryz.prog bQl:=⟨K9,⟨cWl,trivial⟩⟩
def bU5:Tab:=[(222,cV3),(4,i4),(9,i9)]
theorem bKa:TOK Tryz.prog bU5:=⟨cWl,⟨K4,⟨K9,trivial⟩⟩⟩
def bYu:Tab:=[(9,i9),(222,cV3),(4,i4)]
theorem bP0:TOK Tryz.prog bYu:=⟨K9,⟨cWl,⟨K4,trivial⟩⟩⟩
def bUz:Tab:=[(9,i9)]
theorem bJ5:TOK Tryz.prog bUz:=⟨K9,trivial⟩
theorem cVo:aAo.toList=[45]:=by rw [ByteArray.toList_eq]
theorem aUj (l:List UInt8):aHf ⟨(45::l).toArray⟩ aAo=true/\aCp ⟨(45::l).toArray⟩ aAo=⟨l.toArray⟩:=by
 have h:aHf ⟨(45::l).toArray⟩ aAo=true:=by rw [aCx,aDg];simp
 refine ⟨h,?_⟩
 rw [aCp,if_pos h]
 refine aBl ?_
 rw [aB3,aDg,aDg]
 rw [show aAo.size=1 from rfl]
 have:(⟨(45::l).toArray⟩:ByteArray).size=l.length+1:=by rw [<- Go.N.len_toList,aDg];rfl
 rw [this];simp
theorem bD0 (s:ByteArray):(aHf s aAo=true/\s=⟨(45::(aCp s aAo).toList).toArray⟩)\/(aHf s aAo=false/\aCp s aAo=s/\s.toList[0]? ≠some 45):=by
 cases hb:aHf s aAo with
 |true=>
  left
  refine ⟨rfl,?_⟩
  rw [aCx,decide_eq_true_eq] at hb
  have h0:0<s.toList.length:=(List.getElem?_eq_some_iff.1 hb).1
  obtain ⟨a,l,hal⟩:=List.exists_cons_of_length_pos h0
  rw [hal] at hb
  simp at hb
  subst hb
  have e:s=⟨(45::l).toArray⟩:=by rw [<- aL8 s,hal]
  rw [e,(aUj l).2,aDg]
 |false=>
  right
  refine ⟨rfl,?_,?_⟩
  · rw [aCp,if_neg (by simp [hb])]
  · rw [aCx,decide_eq_false_iff_not] at hb;exact hb
theorem aKe (s:ByteArray):(aHf s aAo=true/\aCp s aAo=⟨#[48]⟩)↔s=⟨#[45,48]⟩:=by
 constructor
 · rintro ⟨h1,h2⟩
   rcases bD0 s with ⟨_,h⟩|⟨h,_⟩
   · rw [h,h2]
     have e:(⟨#[48]⟩:ByteArray).toList=[48]:=by rw [ByteArray.toList_eq]
     rw [e]
   · rw [h] at h1;cases h1
 · intro h
   rw [h]
   exact aUj [48]
theorem bDb (s:ByteArray) (hs:s.size<9000000000):aAc Tryz.prog gl 196 [.str s] (λx=>x= .tup [.agg [.bool (aHf s aAo),.str (aCp s aAo)],.bool (aBq s)]):=by
 refine vgo bJ9 Tryz.func196 ?_
 have ht:=aH0 s aAo
 have hz:=aKe s
 repeat' first|refine sW ⟨?_⟩|(refine sp ?_ ?_<;>refine λh=>⟨?_⟩)|fail
 conv=>whnf
 refine .inl ⟨_,bCy gl s aAo hs (by decide),?_⟩
 rintro _ rfl
 repeat' first|refine sW ⟨?_⟩|(refine sp ?_ ?_<;>refine λh=>⟨?_⟩)|fail
 conv=>whnf
 refine .inl ⟨_,aLr gl (aCp s aAo) (by omega),?_⟩
 rintro _ rfl
 cases hb:aHf s aAo<;>cases hc:aEi (aCp s aAo).toList
 · repeat' first|refine sW ⟨?_⟩|(refine sp ?_ ?_<;>refine λh=>⟨?_⟩)|fail
   conv=>whnf
   simp [aBq,hc,one]
 · have hne:¬s=⟨#[45,48]⟩:=λe=>by have:=(hz.2 e).1;rw [hb] at this;cases this
   repeat' first|refine sW ⟨?_⟩|(refine sp ?_ ?_<;>refine λh=>⟨?_⟩)|fail
   conv=>whnf
   simp [aBq,hc,one,hne]
 · repeat' first|refine sW ⟨?_⟩|(refine sp ?_ ?_<;>refine λh=>⟨?_⟩)|fail
   conv=>whnf
   simp [aBq,hc,one]
 · repeat' first|refine sW ⟨?_⟩|(refine sp ?_ ?_<;>refine λh=>⟨?_⟩)|fail
   conv=>whnf
   by_cases h:aCp s aAo=⟨#[48]⟩
   · have e:=hz.1 ⟨hb,h⟩
     have e2:aBq s=false:=by rw [aBq];simp [e]
     rw [e2]
     simp [one,h]
   · have e:¬s=⟨#[45,48]⟩:=λe=>h (hz.2 e).2
     have e2:aBq s=true:=by rw [aBq,hc];simp [e]
     rw [e2]
     simp [one,h]
theorem bRk (s:ByteArray) (hs:s.size<9000000000):aAc Tryz.prog gl 156 [.str s] (λx=>x= .bool (aBq s)):=by
 refine vgo bG4 Tryz.func156 ?_
 repeat' first|refine sW ⟨?_⟩|(refine sp ?_ ?_<;>refine λh=>⟨?_⟩)|fail
 conv=>whnf
 refine .inl ⟨_,bDb gl s hs,?_⟩
 rintro _ rfl
 repeat' first|refine sW ⟨?_⟩|(refine sp ?_ ?_<;>refine λh=>⟨?_⟩)|fail
 conv=>whnf
 rfl
theorem bLw (m:Bool) (s:ByteArray) (hs:s.size<9000000000):aAc Tryz.prog gl 202 [.agg [.bool m,.str s]] (λx=>x= .str (if m=true/\s≠aAx 0 then aAo++s else s)):=by
 refine vgo bKa Tryz.func202 ?_
 rw [<- aB8]
 generalize hR:(if m=true/\s≠⟨#[48]⟩ then aAo++s else s)=R
 cases m
 · rw [if_neg (by simp)] at hR
   repeat' first|refine sW ⟨?_⟩|(refine sp ?_ ?_<;>refine λh=>⟨?_⟩)|fail
   conv=>whnf
   exact congrArg AV.str hR
 · repeat' first|refine sW ⟨?_⟩|(refine sp ?_ ?_<;>refine λh=>⟨?_⟩)|fail
   · refine ⟨(show 1+s.size<=9223372036854775807 by omega),?_⟩
     repeat' first|refine sW ⟨?_⟩|(refine sp ?_ ?_<;>refine λh=>⟨?_⟩)|fail
     conv=>whnf
     rw [if_pos ⟨rfl,h⟩] at hR
     exact congrArg AV.str hR
   · conv=>whnf
     rw [if_neg (λhh=>hh.2 h)] at hR
     exact congrArg AV.str hR
theorem bZi (n:Nat) (hn0:n≠0) (hn:(dec n).length<9000000):aAc Tryz.prog gl 162 [.str (aAx n)] (λx=>x= .tup [.str (aAo++aAx n),.int .i64 0]):=by
 refine vgo bP0 Tryz.func162 ?_
 have hz:=aAq n
 have hnm:aHf (aAx n) aAo=false:=by
  rw [aCx,decide_eq_false_iff_not,aAu]
  intro e
  have h1:=List.all_eq_true.1 (aH8 n) 45 (List.mem_of_getElem? e)
  simp [aCe] at h1
 have htr:aCp (aAx n) aAo=aAx n:=by rw [aCp,if_neg (by simp [hnm])]
 have hw:aBq (aAx n)=true:=by
  have:¬aAx n=⟨#[45,48]⟩:=λe=>by
   have:=(aKe (aAx n)).2 e
   rw [hnm] at this;cases this.1
  rw [aBq,htr,aAu,aI9];simp [this]
 have hr:=bDb gl (aAx n) (by omega)
 rw [hnm,htr,hw] at hr
 have htx:=bLw gl true (aAx n) (by omega)
 rw [if_pos ⟨rfl,λe=>hn0 (aDu.1 e)⟩] at htx
 repeat' first|refine sW ⟨?_⟩|(refine sp ?_ ?_<;>refine λh=>⟨?_⟩)|fail
 conv=>whnf
 refine .inl ⟨_,hr,?_⟩
 rintro _ rfl
 repeat' first|refine sW ⟨?_⟩|(refine sp ?_ ?_<;>refine λh=>⟨?_⟩)|fail
 conv=>whnf
 refine .inl ⟨_,htx,?_⟩
 rintro _ rfl
 repeat' first|refine sW ⟨?_⟩|(refine sp ?_ ?_<;>refine λh=>⟨?_⟩)|fail
 conv=>whnf
 rfl
theorem bVv (s:ByteArray) (hs:s.size<9000000000):aAc Tryz.prog gl 163 [.str s] (λx=>x= .str (aCp s aAo)):=by
 refine vgo bJ5 Tryz.func163 ?_
 repeat' first|refine sW ⟨?_⟩|(refine sp ?_ ?_<;>refine λh=>⟨?_⟩)|fail
 conv=>whnf
 refine .inl ⟨_,aY6 gl s aAo hs (by decide),?_⟩
 rintro _ rfl
 repeat' first|refine sW ⟨?_⟩|(refine sp ?_ ?_<;>refine λh=>⟨?_⟩)|fail
 conv=>whnf
 rfl
end Go.V
namespace Go.V
open Go.N Go.Proofs
variable (gl:Gl)
def bU0:Tab:=[(146,cVv),(9,i9)]
theorem bJ6:TOK Tryz.prog bU0:=⟨cVx,⟨K9,trivial⟩⟩
def bKr:Tab:=[(146,cVv),(9,i9),(148,cW1),(189,cYk),(187,cYj),(28,i28),(198,cYu),(196,cYt)]
theorem bBj:TOK Tryz.prog bKr:=⟨cVx,⟨K9,⟨cW5,⟨cYq,⟨cYp,⟨K28,⟨cYx,⟨cYw,trivial⟩⟩⟩⟩⟩⟩⟩⟩
def bUy:Tab:=[(146,cVv),(9,i9),(4,i4),(148,cW1),(189,cYk),(187,cYj)]
theorem bJ4:TOK Tryz.prog bUy:=⟨cVx,⟨K9,⟨K4,⟨cW5,⟨cYq,⟨cYp,trivial⟩⟩⟩⟩⟩⟩
def bQi:Tab:=[(9,i9),(146,cVv),(148,cW1)]
theorem bG1:TOK Tryz.prog bQi:=⟨K9,⟨cVx,⟨cW5,trivial⟩⟩⟩
def bHq:Tab:=[(124,cTu),(9,i9)]
theorem aYa:TOK Tryz.prog bHq:=⟨cTv,⟨K9,trivial⟩⟩
def aYn:Tab:=[(124,cTu),(9,i9),(3,i3)]
theorem aSo:TOK Tryz.prog aYn:=⟨cTv,⟨K9,⟨K3,trivial⟩⟩⟩
def bHp:Tab:=[(124,cTu),(9,i9),(3,i3),(5,i5),(4,i4)]
theorem aX9:TOK Tryz.prog bHp:=⟨cTv,⟨K9,⟨K3,⟨K5,⟨K4,trivial⟩⟩⟩⟩⟩
def aIg (p q:ByteArray):ByteArray:=if q=⟨#[49]⟩ then p else p++aGj++q
theorem bC3 (p q:ByteArray) (hp:p.size<9000000) (hq:q.size<9000000):aAc Tryz.prog gl 158 [.agg [.str p,.str q]] (λx=>x= .str (aIg p q)):=by
 refine vgo bJ6 Tryz.func158 ?_
 have hsl:aGj.size=1:=rfl
 repeat' first|refine sW ⟨?_⟩|(refine sp ?_ ?_<;>refine λh=>⟨?_⟩)|fail
 · conv=>whnf
   exact congrArg AV.str (by rw [aIg,if_pos h])
 · refine ⟨(show p.size+1<=_ by omega),?_⟩
   have hs2:(p++aGj).size=p.size+1:=by rw [ByteArray.size_append];rfl
   repeat' first|refine sW ⟨?_⟩|(refine sp ?_ ?_<;>refine λh=>⟨?_⟩)|fail
   refine ⟨(show (p++aGj).size+q.size<=_ by omega),?_⟩
   repeat' first|refine sW ⟨?_⟩|(refine sp ?_ ?_<;>refine λh=>⟨?_⟩)|fail
   conv=>whnf
   exact congrArg AV.str (by rw [aIg,if_neg h])
theorem aM7 (p q:ByteArray) (hp:p.size<9000000) (hq:q.size<9000000):aAc Tryz.prog gl 132 [.agg [.str p,.str q]] (λx=>x= .str (aIg p q)):=by
 refine vgo aYa Tryz.func132 ?_
 have hsl:aGj.size=1:=rfl
 repeat' first|refine sW ⟨?_⟩|(refine sp ?_ ?_<;>refine λh=>⟨?_⟩)|fail
 · conv=>whnf
   exact congrArg AV.str (by rw [aIg,if_pos h])
 · refine ⟨(show p.size+1<=_ by omega),?_⟩
   have hs2:(p++aGj).size=p.size+1:=by rw [ByteArray.size_append];rfl
   repeat' first|refine sW ⟨?_⟩|(refine sp ?_ ?_<;>refine λh=>⟨?_⟩)|fail
   refine ⟨(show (p++aGj).size+q.size<=_ by omega),?_⟩
   repeat' first|refine sW ⟨?_⟩|(refine sp ?_ ?_<;>refine λh=>⟨?_⟩)|fail
   conv=>whnf
   exact congrArg AV.str (by rw [aIg,if_neg h])
def aGm (p:ByteArray):Nat:=aC8 (aCp p aAo).toList
def aL4 (p:ByteArray) (n:Nat):ByteArray:=if aHf p aAo=true then aAo++aAx (aGm p / Nat.gcd (aGm p) n) else aAx (aGm p / Nat.gcd (aGm p) n)
def aL6 (p:ByteArray) (n:Nat):ByteArray:=aAx (n / Nat.gcd (aGm p) n)
structure Low (p:ByteArray) (n:Nat):Prop where
 tr:aCp p aAo=aAx (aGm p)
 len:(dec (aGm p)).length=(aCp p aAo).size
 neg:aHf p aAo=true->aGm p≠0
 qneg:aHf (aAx n) aAo=false
 qtr:aCp (aAx n) aAo=aAx n
theorem bAd {p:ByteArray}{n:Nat}(hp:aBq p=true):Low p n:=by
 simp only [aBq,Bool.and_eq_true,Bool.not_eq_true',decide_eq_false_iff_not] at hp
 have h1:=aHq hp.1
 have hnm:aHf (aAx n) aAo=false:=by
  rw [aCx,decide_eq_false_iff_not,aAu]
  intro e
  have h1:=List.all_eq_true.1 (aH8 n) 45 (List.mem_of_getElem? e)
  simp [aCe] at h1
 refine ⟨h1,?_,λh e=>?_,hnm,by rw [aCp,if_neg (by simp [hnm])]⟩
 · rw [<- aAq];unfold aGm;rw [<- h1]
 · refine hp.2 ((aKe p).1 ⟨h,?_⟩)
   rw [h1]
   show aAx (aGm p)=_
   rw [e,aB8]
set_option maxHeartbeats 4000000 in
theorem aPt (p:ByteArray) (n:Nat) (hw:aBq p=true) (hn0:n≠0) (hp:p.size<200000) (hn:(dec n).length<200000):aAc Tryz.prog gl 114 [.str p,.str (aAx n)]
 (λx=>x= .tup [.agg [.str (aL4 p n),.str (aL6 p n)],.nili]):=by
 refine vgo bBj Tryz.func114 ?_
 have L:=bAd (n:=n) hw
 have ht:=aH0 p aAo
 have hlen:=L.len
 have hz:=aAq n
 have hg0:0<Nat.gcd (aGm p) n:=Nat.gcd_pos_of_pos_right _ (by omega)
 have hgl:(dec (Nat.gcd (aGm p) n)).length<=(dec n).length:=aBw (Nat.gcd_le_right _ (by omega))
 have hq0:¬aAx n=⟨#[48]⟩:=λe=>hn0 (by rw [aB8] at e;exact aDu.1 e)
 have hql:(dec (aGm p / Nat.gcd (aGm p) n)).length<=(dec (aGm p)).length:=aBw (Nat.div_le_self _ _)
 have h1:=aPq gl (aAx n) aAo (by omega) (by decide)
 rw [L.qneg] at h1
 have h2:=bVv gl p (by omega)
 rw [L.tr] at h2
 have h3:=bZd gl (aGm p) n (by omega) (by omega)
 have h4:=bTt gl (aGm p) (Nat.gcd (aGm p) n) hg0 (by omega) (by omega)
 have h5:=bTt gl n (Nat.gcd (aGm p) n) hg0 (by omega) (by omega)
 have h6:=aPq gl p aAo (by omega) (by decide)
 repeat' first|refine sW ⟨?_⟩|(refine sp ?_ ?_<;>refine λh=>⟨?_⟩)|fail
 · exact absurd h hq0
 conv=>whnf
 refine .inl ⟨_,h1,?_⟩
 rintro _ rfl
 repeat' first|refine sW ⟨?_⟩|(refine sp ?_ ?_<;>refine λh=>⟨?_⟩)|fail
 conv=>whnf
 refine .inl ⟨_,h2,?_⟩
 rintro _ rfl
 repeat' first|refine sW ⟨?_⟩|(refine sp ?_ ?_<;>refine λh=>⟨?_⟩)|fail
 conv=>whnf
 refine .inl ⟨_,h3,?_⟩
 rintro _ rfl
 repeat' first|refine sW ⟨?_⟩|(refine sp ?_ ?_<;>refine λh=>⟨?_⟩)|fail
 conv=>whnf
 refine .inl ⟨_,h2,?_⟩
 rintro _ rfl
 repeat' first|refine sW ⟨?_⟩|(refine sp ?_ ?_<;>refine λh=>⟨?_⟩)|fail
 conv=>whnf
 refine .inl ⟨_,h4,?_⟩
 rintro _ rfl
 repeat' first|refine sW ⟨?_⟩|(refine sp ?_ ?_<;>refine λh=>⟨?_⟩)|fail
 conv=>whnf
 refine .inl ⟨_,h5,?_⟩
 rintro _ rfl
 repeat' first|refine sW ⟨?_⟩|(refine sp ?_ ?_<;>refine λh=>⟨?_⟩)|fail
 conv=>whnf
 refine .inl ⟨_,h6,?_⟩
 rintro _ rfl
 cases hb:aHf p aAo
 · repeat' first|refine sW ⟨?_⟩|(refine sp ?_ ?_<;>refine λh=>⟨?_⟩)|fail
   conv=>whnf
   simp [aL4,aL6,hb,one]
 · have hd0:aGm p / Nat.gcd (aGm p) n≠0:=by
    have h1:=Nat.div_pos (Nat.le_of_dvd (Nat.pos_of_ne_zero (L.neg hb)) (Nat.gcd_dvd_left (aGm p) n)) hg0
    omega
   have h7:=bZi gl (aGm p / Nat.gcd (aGm p) n) hd0 (by omega)
   repeat' first|refine sW ⟨?_⟩|(refine sp ?_ ?_<;>refine λh=>⟨?_⟩)|fail
   conv=>whnf
   refine .inl ⟨_,h7,?_⟩
   rintro _ rfl
   repeat' first|refine sW ⟨?_⟩|(refine sp ?_ ?_<;>refine λh=>⟨?_⟩)|fail
   conv=>whnf
   simp [aL4,aL6,hb,one]
end Go.V
namespace Go.V
open Go.N Go.Proofs
def cW4:List Int:=[1,10,100,1000,10000,100000,1000000,10000000,100000000,1000000000,10000000000,100000000000,1000000000000,10000000000000,100000000000000,1000000000000000,10000000000000000,100000000000000000,1000000000000000000,10000000000000000000]
def cW3:List AV:=cW4.map λz=>.int .u64 z
def GL:Gl:=[(0,[.iface 323 .j]),(1,[.iface 323 .j]),(4,cW3)]
theorem aZp (s:ByteArray):(aGo s).1.size<=s.size/\(aGo s).2.1.size<=s.size:=by
 have hl:=Go.N.len_toList s
 unfold aGo
 split
 · rename_i k hk
   have:=aWc hk
   refine ⟨?_,?_⟩
   · rw [<- Go.N.len_toList,aDg];simp;omega
   · rw [<- Go.N.len_toList,aDg];simp;omega
 · exact ⟨Nat.le_refl _,Nat.zero_le _⟩
abbrev bA8:ByteArray:=⟨#[49]⟩
theorem aG4:bA8=aAx 1:=by decide +kernel
def bD7 (s:ByteArray):ByteArray:=if (aGo s).2.2=true then (aGo s).2.1 else bA8
def aBu (s:ByteArray):Bool:=aBq (aGo s).1 && aEi (bD7 s).toList && !decide (bD7 s=⟨#[48]⟩) && !((aGo s).2.2 && decide (bD7 s=bA8))
def aGn (s:ByteArray):Nat:=aC8 (bD7 s).toList
def aBa (s:ByteArray):Bool:=aBu s && decide (aIg (aL4 (aGo s).1 (aGn s)) (aL6 (aGo s).1 (aGn s))=s)
theorem aOp {p:ByteArray}{n:Nat}(hp:aBq p=true):(aL4 p n).size<=p.size+1/\(aL6 p n).size<=(dec n).length:=by
 have L:=bAd (n:=n) hp
 have ht:=aH0 p aAo
 have h1:(dec (aGm p / Nat.gcd (aGm p) n)).length<=(dec (aGm p)).length:=aBw (Nat.div_le_self _ _)
 have h2:(dec (n / Nat.gcd (aGm p) n)).length<=(dec n).length:=aBw (Nat.div_le_self _ _)
 have hl:=L.len
 refine ⟨?_,by rw [aL6,aAq];exact h2⟩
 unfold aL4
 split
 · rw [ByteArray.size_append,aAq]
   have:aAo.size=1:=rfl
   omega
 · rw [aAq];omega
set_option maxHeartbeats 4000000 in
theorem bLv (s:ByteArray) (hs:s.size<190000):aAc Tryz.prog GL 111 [.str s]
 (λx=>x=if aBa s=true then .tup [.agg [.str (aL4 (aGo s).1 (aGn s)),.str (aL6 (aGo s).1 (aGn s))],.nili] else .tup [.agg [.str ⟨#[]⟩,.str ⟨#[]⟩],.iface 187 .j]):=by
 refine vgo bJ4 Tryz.func111 ?_
 have hcs:=aZp s
 have hc:=cBy GL s (by omega)
 generalize hR:(if aBa s=true then AV.tup [.agg [.str (aL4 (aGo s).1 (aGn s)),.str (aL6 (aGo s).1 (aGn s))],.nili] else .tup [.agg [.str ⟨#[]⟩,.str ⟨#[]⟩],.iface 187 .j])=R
 have hR0:aBu s=false->R= .tup [.agg [.str ⟨#[]⟩,.str ⟨#[]⟩],.iface 187 .j]:=λh=>by
  rw [<- hR,if_neg (by simp [aBa,h])]
 obtain ⟨p,hp⟩:∃p,p=(aGo s).1:=⟨_,rfl⟩
 obtain ⟨q0,hq0⟩:∃q,q=(aGo s).2.1:=⟨_,rfl⟩
 rw [<- hp,<-hq0] at hcs
 rw [<- hp,<-hq0] at hc
 have hw:=bRk GL p (by omega)
 cases htwo:(aGo s).2.2
 · rw [htwo] at hc
   have hq:bD7 s=bA8:=by rw [bD7,if_neg (by simp [htwo])]
   have hr:=aLr GL bA8 (by decide)
   have hn1:aEi bA8.toList=true:=by rw [aG4,aAu];exact aI9 1
   rw [hn1] at hr
   cases hwp:aBq p
   · rw [hwp] at hw
     have hbad:aBu s=false:=by simp [aBu,<-hp,hwp]
     rw [hR0 hbad]
     repeat' first|refine sW ⟨?_⟩|(refine sp ?_ ?_<;>refine λh=>⟨?_⟩)|fail
     conv=>whnf
     refine .inl ⟨_,hc,?_⟩
     rintro _ rfl
     repeat' first|refine sW ⟨?_⟩|(refine sp ?_ ?_<;>refine λh=>⟨?_⟩)|fail
     conv=>whnf
     refine .inl ⟨_,hw,?_⟩
     rintro _ rfl
     repeat' first|refine sW ⟨?_⟩|(refine sp ?_ ?_<;>refine λh=>⟨?_⟩)|fail
     refine ⟨by decide +kernel,[0,0,0,6,14,30,1,127],by decide +kernel,?_⟩
     repeat' first|refine sW ⟨?_⟩|(refine sp ?_ ?_<;>refine λh=>⟨?_⟩)|fail
     conv=>whnf
     rfl
   · rw [hwp] at hw
     have hN:aGn s=1:=by rw [aGn,hq,aG4,aF7]
     have hok:aBu s=true:=by
      rw [aBu,<-hp,hwp,hq,hn1,htwo]
      have:¬bA8=⟨#[48]⟩:=by decide
      simp [this]
     have L:=bAd (n:=1) hwp
     have hd1:(dec 1).length=1:=by rw [aLx (by omega)];rfl
     have hlw:=aPt GL p 1 hwp (by omega) (by omega) (by omega)
     have hsz:=aOp hwp (n:=1)
     have htx:=bC3 GL (aL4 p 1) (aL6 p 1) (by omega) (by omega)
     rw [<- aG4] at hlw
     rw [<- hN] at hlw htx
     repeat' first|refine sW ⟨?_⟩|(refine sp ?_ ?_<;>refine λh=>⟨?_⟩)|fail
     conv=>whnf
     refine .inl ⟨_,hc,?_⟩
     rintro _ rfl
     repeat' first|refine sW ⟨?_⟩|(refine sp ?_ ?_<;>refine λh=>⟨?_⟩)|fail
     conv=>whnf
     refine .inl ⟨_,hw,?_⟩
     rintro _ rfl
     repeat' first|refine sW ⟨?_⟩|(refine sp ?_ ?_<;>refine λh=>⟨?_⟩)|fail
     conv=>whnf
     refine .inl ⟨_,hr,?_⟩
     rintro _ rfl
     repeat' first|refine sW ⟨?_⟩|(refine sp ?_ ?_<;>refine λh=>⟨?_⟩)|fail
     conv=>whnf
     refine .inl ⟨_,hlw,?_⟩
     rintro _ rfl
     repeat' first|refine sW ⟨?_⟩|(refine sp ?_ ?_<;>refine λh=>⟨?_⟩)|fail
     conv=>whnf
     refine .inl ⟨_,htx,?_⟩
     rintro _ rfl
     by_cases heq:aIg (aL4 p (aGn s)) (aL6 p (aGn s))=s
     · have hfin:R= .tup [.agg [.str (aL4 p (aGn s)),.str (aL6 p (aGn s))],.nili]:=by
        rw [<- hR,if_pos (by rw [aBa,hok,<-hp];simp [heq]),<-hp]
       rw [hfin]
       repeat' first|refine sW ⟨?_⟩|(refine sp ?_ ?_<;>refine λh=>⟨?_⟩)|fail
       · exact absurd heq (by simpa using h)
       conv=>whnf
       rfl
     · have hfin:R= .tup [.agg [.str ⟨#[]⟩,.str ⟨#[]⟩],.iface 187 .j]:=by
        rw [<- hR,if_neg (by rw [aBa,hok,<-hp];simp [heq])]
       rw [hfin]
       repeat' first|refine sW ⟨?_⟩|(refine sp ?_ ?_<;>refine λh=>⟨?_⟩)|fail
       rotate_left
       · exact absurd (by simpa using h) heq
       refine ⟨by decide +kernel,[0,0,0,6,14,30,1,127],by decide +kernel,?_⟩
       repeat' first|refine sW ⟨?_⟩|(refine sp ?_ ?_<;>refine λh=>⟨?_⟩)|fail
       conv=>whnf
       rfl
 · rw [htwo] at hc
   have hq:bD7 s=q0:=by rw [bD7,if_pos htwo,hq0]
   have hr:=aLr GL q0 (by omega)
   cases hwp:aBq p
   · rw [hwp] at hw
     have hbad:aBu s=false:=by simp [aBu,<-hp,hwp]
     rw [hR0 hbad]
     repeat' first|refine sW ⟨?_⟩|(refine sp ?_ ?_<;>refine λh=>⟨?_⟩)|fail
     conv=>whnf
     refine .inl ⟨_,hc,?_⟩
     rintro _ rfl
     repeat' first|refine sW ⟨?_⟩|(refine sp ?_ ?_<;>refine λh=>⟨?_⟩)|fail
     conv=>whnf
     refine .inl ⟨_,hw,?_⟩
     rintro _ rfl
     repeat' first|refine sW ⟨?_⟩|(refine sp ?_ ?_<;>refine λh=>⟨?_⟩)|fail
     refine ⟨by decide +kernel,[0,0,0,6,14,30,1,127],by decide +kernel,?_⟩
     repeat' first|refine sW ⟨?_⟩|(refine sp ?_ ?_<;>refine λh=>⟨?_⟩)|fail
     conv=>whnf
     rfl
   · rw [hwp] at hw
     cases hn1:aEi q0.toList
     · rw [hn1] at hr
       have hbad:aBu s=false:=by simp [aBu,hq,hn1]
       rw [hR0 hbad]
       repeat' first|refine sW ⟨?_⟩|(refine sp ?_ ?_<;>refine λh=>⟨?_⟩)|fail
       conv=>whnf
       refine .inl ⟨_,hc,?_⟩
       rintro _ rfl
       repeat' first|refine sW ⟨?_⟩|(refine sp ?_ ?_<;>refine λh=>⟨?_⟩)|fail
       conv=>whnf
       refine .inl ⟨_,hw,?_⟩
       rintro _ rfl
       repeat' first|refine sW ⟨?_⟩|(refine sp ?_ ?_<;>refine λh=>⟨?_⟩)|fail
       conv=>whnf
       refine .inl ⟨_,hr,?_⟩
       rintro _ rfl
       repeat' first|refine sW ⟨?_⟩|(refine sp ?_ ?_<;>refine λh=>⟨?_⟩)|fail
       refine ⟨by decide +kernel,[0,0,0,6,14,30,1,127],by decide +kernel,?_⟩
       repeat' first|refine sW ⟨?_⟩|(refine sp ?_ ?_<;>refine λh=>⟨?_⟩)|fail
       conv=>whnf
       rfl
     · rw [hn1] at hr
       have hqd:=aHq hn1
       have hN:aGn s=aC8 q0.toList:=by rw [aGn,hq]
       by_cases hz:q0=⟨#[48]⟩
       · have hbad:aBu s=false:=by simp [aBu,hq,hz]
         rw [hR0 hbad]
         repeat' first|refine sW ⟨?_⟩|(refine sp ?_ ?_<;>refine λh=>⟨?_⟩)|fail
         conv=>whnf
         refine .inl ⟨_,hc,?_⟩
         rintro _ rfl
         repeat' first|refine sW ⟨?_⟩|(refine sp ?_ ?_<;>refine λh=>⟨?_⟩)|fail
         conv=>whnf
         refine .inl ⟨_,hw,?_⟩
         rintro _ rfl
         repeat' first|refine sW ⟨?_⟩|(refine sp ?_ ?_<;>refine λh=>⟨?_⟩)|fail
         conv=>whnf
         refine .inl ⟨_,hr,?_⟩
         rintro _ rfl
         repeat' first|refine sW ⟨?_⟩|(refine sp ?_ ?_<;>refine λh=>⟨?_⟩)|fail
         all_goals first|exact absurd hz (by assumption)|skip
         refine ⟨by decide +kernel,[0,0,0,6,14,30,1,127],by decide +kernel,?_⟩
         repeat' first|refine sW ⟨?_⟩|(refine sp ?_ ?_<;>refine λh=>⟨?_⟩)|fail
         conv=>whnf
         rfl
       · by_cases h1:q0=bA8
         · have hbad:aBu s=false:=by simp [aBu,hq,h1,htwo]
           rw [hR0 hbad]
           repeat' first|refine sW ⟨?_⟩|(refine sp ?_ ?_<;>refine λh=>⟨?_⟩)|fail
           conv=>whnf
           refine .inl ⟨_,hc,?_⟩
           rintro _ rfl
           repeat' first|refine sW ⟨?_⟩|(refine sp ?_ ?_<;>refine λh=>⟨?_⟩)|fail
           conv=>whnf
           refine .inl ⟨_,hw,?_⟩
           rintro _ rfl
           repeat' first|refine sW ⟨?_⟩|(refine sp ?_ ?_<;>refine λh=>⟨?_⟩)|fail
           conv=>whnf
           refine .inl ⟨_,hr,?_⟩
           rintro _ rfl
           repeat' first|refine sW ⟨?_⟩|(refine sp ?_ ?_<;>refine λh=>⟨?_⟩)|fail
           all_goals first|exact absurd h1 (by assumption)|exact absurd (by assumption) hz|skip
           refine ⟨by decide +kernel,[0,0,0,6,14,30,1,127],by decide +kernel,?_⟩
           repeat' first|refine sW ⟨?_⟩|(refine sp ?_ ?_<;>refine λh=>⟨?_⟩)|fail
           conv=>whnf
           rfl
         · have hok:aBu s=true:=by
            rw [aBu,<-hp,hwp,hq,hn1,htwo]
            simp [hz,h1]
           have hn0:aC8 q0.toList≠0:=λe=>hz (by rw [hqd,e,aB8])
           have hdl:(dec (aC8 q0.toList)).length=q0.size:=by rw [<- aAq,<-hqd]
           have hlw:=aPt GL p (aC8 q0.toList) hwp hn0 (by omega) (by omega)
           have hsz:=aOp hwp (n:=aC8 q0.toList)
           have htx:=bC3 GL (aL4 p (aC8 q0.toList)) (aL6 p (aC8 q0.toList)) (by omega) (by omega)
           rw [<- hqd] at hlw
           rw [<- hN] at hlw htx
           repeat' first|refine sW ⟨?_⟩|(refine sp ?_ ?_<;>refine λh=>⟨?_⟩)|fail
           conv=>whnf
           refine .inl ⟨_,hc,?_⟩
           rintro _ rfl
           repeat' first|refine sW ⟨?_⟩|(refine sp ?_ ?_<;>refine λh=>⟨?_⟩)|fail
           conv=>whnf
           refine .inl ⟨_,hw,?_⟩
           rintro _ rfl
           repeat' first|refine sW ⟨?_⟩|(refine sp ?_ ?_<;>refine λh=>⟨?_⟩)|fail
           conv=>whnf
           refine .inl ⟨_,hr,?_⟩
           rintro _ rfl
           repeat' first|refine sW ⟨?_⟩|(refine sp ?_ ?_<;>refine λh=>⟨?_⟩)|fail
           all_goals first|exact absurd (by assumption) h1|exact absurd (by assumption) hz|skip
           conv=>whnf
           refine .inl ⟨_,hlw,?_⟩
           rintro _ rfl
           repeat' first|refine sW ⟨?_⟩|(refine sp ?_ ?_<;>refine λh=>⟨?_⟩)|fail
           conv=>whnf
           refine .inl ⟨_,htx,?_⟩
           rintro _ rfl
           by_cases heq:aIg (aL4 p (aGn s)) (aL6 p (aGn s))=s
           · have hfin:R= .tup [.agg [.str (aL4 p (aGn s)),.str (aL6 p (aGn s))],.nili]:=by
              rw [<- hR,if_pos (by rw [aBa,hok,<-hp];simp [heq]),<-hp]
             rw [hfin]
             repeat' first|refine sW ⟨?_⟩|(refine sp ?_ ?_<;>refine λh=>⟨?_⟩)|fail
             · exact absurd heq (by simpa using h)
             conv=>whnf
             rfl
           · have hfin:R= .tup [.agg [.str ⟨#[]⟩,.str ⟨#[]⟩],.iface 187 .j]:=by
              rw [<- hR,if_neg (by rw [aBa,hok,<-hp];simp [heq])]
             rw [hfin]
             repeat' first|refine sW ⟨?_⟩|(refine sp ?_ ?_<;>refine λh=>⟨?_⟩)|fail
             rotate_left
             · exact absurd (by simpa using h) heq
             refine ⟨by decide +kernel,[0,0,0,6,14,30,1,127],by decide +kernel,?_⟩
             repeat' first|refine sW ⟨?_⟩|(refine sp ?_ ?_<;>refine λh=>⟨?_⟩)|fail
             conv=>whnf
             rfl
end Go.V
namespace Go.V
open Go.N Go.Proofs
theorem aLs (s:ByteArray) (hs:s.size<190000):aAc Tryz.prog GL 58 [.str s] (λx=>x= .bool (aBa s)):=by
 refine vgo bG1 Tryz.func58 ?_
 have h:=bLv s hs
 cases hb:aBa s
 · rw [if_neg (by simp [hb])] at h
   repeat' first|refine sW ⟨?_⟩|(refine sp ?_ ?_<;>refine λh=>⟨?_⟩)|fail
   conv=>whnf
   refine .inl ⟨_,h,?_⟩
   rintro _ rfl
   repeat' first|refine sW ⟨?_⟩|(refine sp ?_ ?_<;>refine λh=>⟨?_⟩)|fail
   conv=>whnf
   rfl
 · rw [if_pos hb] at h
   repeat' first|refine sW ⟨?_⟩|(refine sp ?_ ?_<;>refine λh=>⟨?_⟩)|fail
   conv=>whnf
   refine .inl ⟨_,h,?_⟩
   rintro _ rfl
   repeat' first|refine sW ⟨?_⟩|(refine sp ?_ ?_<;>refine λh=>⟨?_⟩)|fail
   conv=>whnf
   rfl
variable (gl:Gl)
set_option maxHeartbeats 4000000 in
theorem aI0 (p:ByteArray) (n:Nat) (hw:aBq p=true) (hn0:n≠0) (hp:p.size<200000) (hn:(dec n).length<200000):aAc Tryz.prog gl 131 [.str p,.str (aAx n)]
 (λx=>x= .agg [.str (aL4 p n),.str (aL6 p n)]):=by
 refine vgo aSo Tryz.func131 ?_
 have L:=bAd (n:=n) hw
 have ht:=aH0 p aAo
 have hlen:=L.len
 have hz:=aAq n
 have hzp:=List.length_pos_iff.2 (aEt n)
 have hg0:0<Nat.gcd (aGm p) n:=Nat.gcd_pos_of_pos_right _ (by omega)
 have hgl:(dec (Nat.gcd (aGm p) n)).length<=(dec n).length:=aBw (Nat.gcd_le_right _ (by omega))
 have hql:(dec (aGm p / Nat.gcd (aGm p) n)).length<=(dec (aGm p)).length:=aBw (Nat.div_le_self _ _)
 have hzq:=aAq (aGm p / Nat.gcd (aGm p) n)
 have hpp:0<p.size:=by
  rcases Nat.eq_zero_or_pos p.size with h|h
  · have h1:(aCp p aAo).size=0:=by omega
    have:=List.length_pos_iff.2 (aEt (aGm p))
    omega
  · exact h
 have h1:=aM5 gl (aAx n) (by omega) (by omega)
 rw [if_neg (by simp [L.qneg]),if_neg (λe=>hn0 (aDu.1 e))] at h1
 have h2:=aM6 gl p (by omega)
 rw [L.tr] at h2
 have h3:=bMa gl (aGm p) n (by omega) (by omega)
 have h4:=aPx gl (aGm p) (Nat.gcd (aGm p) n) hg0 (by omega) (by omega)
 have h5:=aPx gl n (Nat.gcd (aGm p) n) hg0 (by omega) (by omega)
 have h6:=aM5 gl p (by omega) hpp
 repeat' first|refine sW ⟨?_⟩|(refine sp ?_ ?_<;>refine λh=>⟨?_⟩)|fail
 conv=>whnf
 refine .inl ⟨_,h1,?_⟩
 rintro _ rfl
 repeat' first|refine sW ⟨?_⟩|(refine sp ?_ ?_<;>refine λh=>⟨?_⟩)|fail
 conv=>whnf
 refine .inl ⟨_,h2,?_⟩
 rintro _ rfl
 repeat' first|refine sW ⟨?_⟩|(refine sp ?_ ?_<;>refine λh=>⟨?_⟩)|fail
 conv=>whnf
 refine .inl ⟨_,h3,?_⟩
 rintro _ rfl
 repeat' first|refine sW ⟨?_⟩|(refine sp ?_ ?_<;>refine λh=>⟨?_⟩)|fail
 conv=>whnf
 refine .inl ⟨_,h4,?_⟩
 rintro _ rfl
 repeat' first|refine sW ⟨?_⟩|(refine sp ?_ ?_<;>refine λh=>⟨?_⟩)|fail
 conv=>whnf
 refine .inl ⟨_,h5,?_⟩
 rintro _ rfl
 repeat' first|refine sW ⟨?_⟩|(refine sp ?_ ?_<;>refine λh=>⟨?_⟩)|fail
 conv=>whnf
 cases hb:aHf p aAo
 · obtain ⟨r,hr,h6⟩:∃r:Int,0<=r/\aAc Tryz.prog gl 174 [.str p] (λx=>x= .int .i64 r):=by
    rw [if_neg (by simp [hb])] at h6
    exact ⟨_,by split<;>omega,h6⟩
   refine .inl ⟨_,h6,?_⟩
   rintro _ rfl
   repeat' first|refine sW ⟨?_⟩|(refine sp ?_ ?_<;>refine λh=>⟨?_⟩)|fail
   · exact absurd h (by omega)
   conv=>whnf
   simp [aL4,aL6,hb,one]
 · rw [if_pos hb] at h6
   refine .inl ⟨_,h6,?_⟩
   rintro _ rfl
   repeat' first|refine sW ⟨?_⟩|(refine sp ?_ ?_<;>refine λh=>⟨?_⟩)|fail
   refine ⟨(show 1+(aAx (aGm p / Nat.gcd (aGm p) n)).size<=_ by omega),?_⟩
   repeat' first|refine sW ⟨?_⟩|(refine sp ?_ ?_<;>refine λh=>⟨?_⟩)|fail
   conv=>whnf
   simp [aL4,aL6,hb,one]
end Go.V
namespace Go.V
open Go.N Go.Proofs
variable (gl:Gl)
def atF (s:ByteArray) (j:Nat):Nat:=match aOo 47 (s.toList.drop j) with|some k=>j+k|none=>s.size
theorem bRa (s:ByteArray) (j:Nat) (h:j<s.toList.length):atF s j=if s.toList[j]=47 then j else atF s (j+1):=by
 unfold atF
 rw [List.drop_eq_getElem_cons h]
 by_cases h47:s.toList[j]=47
 · simp [aOo,h47]
 · simp only [aOo,h47,if_false]
   cases aOo 47 (s.toList.drop (j+1)) with
   |none=>rfl
   |some k=>simp only [Option.map_some];omega
set_option maxHeartbeats 4000000 in
theorem aEx (s:ByteArray) (hs:s.size<190000):aAc Tryz.prog gl 86 [.str s]
 (λx=>∃p q,x= .tup [.agg [.str p,.str q],.bool (aBa s)]/\(aBa s=true->p=aL4 (aGo s).1 (aGn s)/\q=aL6 (aGo s).1 (aGn s))):=by
 refine vgo aX9 Tryz.func86 ?_
 have hl:=Go.N.len_toList s
 repeat' first|refine sW ⟨?_⟩|(refine sp ?_ ?_<;>refine λh=>⟨?_⟩)|fail
 refine ⟨[0,2,4,5],[0],λkk st=>∃j:Nat,j<=s.size/\kk=j/\st=⟨[(0,.str s),(2,.bptr 0 0),(4,.int .i64 ((atF s j:Nat):Int)),(5,.int .i64 ((j:Int) - 1))],[.box 124 [.str ⟨#[]⟩,.str ⟨#[]⟩]]⟩,rfl,⟨s.size,s.size,by omega,rfl,?_⟩,?_⟩
 · have e:atF s s.size=s.size:=by
    unfold atF
    rw [List.drop_of_length_le (by omega)];rfl
   exact Eq.trans rfl (congrArg (λz:Nat=>(⟨[(0,.str s),(2,.bptr 0 0),(4,.int .i64 ((z:Nat):Int)),(5,.int .i64 (((s.size:Nat):Int) - 1))],[.box 124 [.str ⟨#[]⟩,.str ⟨#[]⟩]]⟩:St)) e.symm)
 rintro kk _ ⟨j,hj,hkk,rfl⟩
 rcases j with _|j
 · have hcs:=aZp s
   obtain ⟨p,hp⟩:∃p,p=(aGo s).1:=⟨_,rfl⟩
   obtain ⟨q,hq⟩:∃q,q=bD7 s:=⟨_,rfl⟩
   have hqs:q.size<=s.size+1:=by
    rw [hq,bD7]
    split
    · omega
    · exact Nat.le_add_left 1 _
   rw [<- hp] at hcs
   cases hix:aOo 47 s.toList with
   |none=>
    have hat:atF s 0=s.size:=by simp only [atF,List.drop_zero,hix]
    have hcut:aGo s=(s,⟨#[]⟩,false):=by simp only [aGo,hix]
    have htwo:(aGo s).2.2=false:=by rw [hcut]
    have e1:s.extract (0:Int).toNat ((s.size:Nat):Int).toNat=p:=by
     rw [hp,hcut]
     refine aBl ?_
     rw [aB3,List.take_of_length_le (by simp [hl])];simp
    have e2:bA8=q:=by rw [hq,bD7,if_neg (by simp [htwo])]
    rw [hat]
    have hw:aAc Tryz.prog gl 129 [.str (s.extract (0:Int).toNat ((s.size:Nat):Int).toNat)] (λx=>x= .bool (aBq p)):=by rw [e1];exact aP0 gl p (by omega)
    have hr:aAc Tryz.prog gl 130 [.str bA8] (λx=>x= .bool (aEi q.toList)):=by rw [e2];exact aK2 q gl (by omega)
    cases hwp:aBq p
    · rw [hwp] at hw
      have hok1:aBu s=false:=by simp [aBu,<-hp,hwp]
      repeat' first|refine sW ⟨?_⟩|(refine sp ?_ ?_<;>refine λh=>⟨?_⟩)|fail
      all_goals try omega
      conv=>whnf
      refine .inl ⟨_,hw,?_⟩
      rintro _ rfl
      repeat' first|refine sW ⟨?_⟩|(refine sp ?_ ?_<;>refine λh=>⟨?_⟩)|fail
      have hbad:aBa s=false:=by rw [aBa,hok1];rfl
      conv=>whnf
      exact ⟨_,_,by rw [hbad];rfl,λh=>by rw [hbad] at h;cases h⟩
    rw [hwp] at hw
    cases hnq:aEi q.toList
    · rw [hnq] at hr
      have hok1:aBu s=false:=by simp [aBu,<-hq,hnq]
      repeat' first|refine sW ⟨?_⟩|(refine sp ?_ ?_<;>refine λh=>⟨?_⟩)|fail
      all_goals try omega
      conv=>whnf
      refine .inl ⟨_,hw,?_⟩
      rintro _ rfl
      repeat' first|refine sW ⟨?_⟩|(refine sp ?_ ?_<;>refine λh=>⟨?_⟩)|fail
      conv=>whnf
      refine .inl ⟨_,hr,?_⟩
      rintro _ rfl
      repeat' first|refine sW ⟨?_⟩|(refine sp ?_ ?_<;>refine λh=>⟨?_⟩)|fail
      have hbad:aBa s=false:=by rw [aBa,hok1];rfl
      conv=>whnf
      exact ⟨_,_,by rw [hbad];rfl,λh=>by rw [hbad] at h;cases h⟩
    rw [hnq] at hr
    have hqd:=aHq hnq
    have hN:aGn s=aC8 q.toList:=by rw [aGn,<-hq]
    have hz:¬q=⟨#[48]⟩:=by rw [<- e2];decide
    by_cases h1:(aGo s).2.2=true/\q=bA8
    · have hok1:aBu s=false:=by simp [aBu,<-hq,h1.1,h1.2]
      exact absurd (htwo.symm.trans h1.1) (by decide)
    have hok1:aBu s=true:=by
     rw [aBu,<-hp,hwp,<-hq,hnq]
     cases h2:(aGo s).2.2
     · simp [hz]
     · have:¬q=bA8:=λe=>h1 ⟨h2,e⟩
       simp [hz,this]
    have hn0:aC8 q.toList≠0:=λe=>hz (by rw [hqd,e,aB8])
    have hdl:(dec (aC8 q.toList)).length=q.size:=by rw [<- aAq,<-hqd]
    have hsz:=aOp hwp (n:=aC8 q.toList)
    have hlw:aAc Tryz.prog gl 131 [.str (s.extract (0:Int).toNat ((s.size:Nat):Int).toNat),.str bA8] (λx=>x= .agg [.str (aL4 p (aGn s)),.str (aL6 p (aGn s))]):=by
     rw [e1,e2,hN,hqd,aF7]
     exact aI0 gl p (aC8 q.toList) hwp hn0 (by omega) (by omega)
    have htx:aAc Tryz.prog gl 132 [.agg [.str (aL4 p (aGn s)),.str (aL6 p (aGn s))]] (λx=>x= .str (aIg (aL4 p (aGn s)) (aL6 p (aGn s)))):=by
     rw [hN]
     exact aM7 gl _ _ (by omega) (by omega)
    have hfin:aBa s=decide (aIg (aL4 p (aGn s)) (aL6 p (aGn s))=s):=by rw [aBa,hok1,<-hp];simp
    repeat' first|refine sW ⟨?_⟩|(refine sp ?_ ?_<;>refine λh=>⟨?_⟩)|fail
    all_goals try omega
    conv=>whnf
    refine .inl ⟨_,hw,?_⟩
    rintro _ rfl
    repeat' first|refine sW ⟨?_⟩|(refine sp ?_ ?_<;>refine λh=>⟨?_⟩)|fail
    conv=>whnf
    refine .inl ⟨_,hr,?_⟩
    rintro _ rfl
    repeat' first|refine sW ⟨?_⟩|(refine sp ?_ ?_<;>refine λh=>⟨?_⟩)|fail
    all_goals try omega
    skip
    conv=>whnf
    refine .inl ⟨_,hlw,?_⟩
    rintro _ rfl
    repeat' first|refine sW ⟨?_⟩|(refine sp ?_ ?_<;>refine λh=>⟨?_⟩)|fail
    refine ⟨by decide +kernel,[0,0,2,0,14,7,63],by decide +kernel,?_⟩
    repeat' first|refine sW ⟨?_⟩|(refine sp ?_ ?_<;>refine λh=>⟨?_⟩)|fail
    conv=>whnf
    refine .inl ⟨_,htx,?_⟩
    repeat' first|refine sW ⟨?_⟩|(refine sp ?_ ?_<;>refine λh=>⟨?_⟩)|fail
    conv=>whnf
    rw [<- hp,hfin]
    exact ⟨_,_,rfl,λ_=>⟨rfl,rfl⟩⟩
   |some k=>
    have hk:=aWc hix
    have hat:atF s 0=k:=by simp only [atF,List.drop_zero,hix];omega
    have hcut:aGo s=(⟨(s.toList.take k).toArray⟩,⟨(s.toList.drop (k+1)).toArray⟩,true):=by simp only [aGo,hix]
    have htwo:(aGo s).2.2=true:=by rw [hcut]
    have e1:s.extract (0:Int).toNat ((k:Nat):Int).toNat=p:=by
     rw [hp,hcut]
     refine aBl ?_
     rw [aB3,aDg];simp
    have e2:s.extract ((k:Int)+1).toNat ((s.size:Nat):Int).toNat=q:=by
     rw [hq,bD7,if_pos htwo,hcut]
     refine aBl ?_
     rw [aB3,show ((k:Int)+1).toNat=k+1 by omega,Int.toNat_natCast,List.take_of_length_le (l:=s.toList.drop (k+1)) (by simp [hl])]
     exact (aDg _).symm
    rw [hat]
    have hw:aAc Tryz.prog gl 129 [.str (s.extract (0:Int).toNat ((k:Nat):Int).toNat)] (λx=>x= .bool (aBq p)):=by rw [e1];exact aP0 gl p (by omega)
    have hr:aAc Tryz.prog gl 130 [.str (s.extract ((k:Int)+1).toNat ((s.size:Nat):Int).toNat)] (λx=>x= .bool (aEi q.toList)):=by rw [e2];exact aK2 q gl (by omega)
    cases hwp:aBq p
    · rw [hwp] at hw
      have hok1:aBu s=false:=by simp [aBu,<-hp,hwp]
      repeat' first|refine sW ⟨?_⟩|(refine sp ?_ ?_<;>refine λh=>⟨?_⟩)|fail
      all_goals try omega
      conv=>whnf
      refine .inl ⟨_,hw,?_⟩
      rintro _ rfl
      repeat' first|refine sW ⟨?_⟩|(refine sp ?_ ?_<;>refine λh=>⟨?_⟩)|fail
      have hbad:aBa s=false:=by rw [aBa,hok1];rfl
      conv=>whnf
      exact ⟨_,_,by rw [hbad];rfl,λh=>by rw [hbad] at h;cases h⟩
    rw [hwp] at hw
    cases hnq:aEi q.toList
    · rw [hnq] at hr
      have hok1:aBu s=false:=by simp [aBu,<-hq,hnq]
      repeat' first|refine sW ⟨?_⟩|(refine sp ?_ ?_<;>refine λh=>⟨?_⟩)|fail
      all_goals try omega
      conv=>whnf
      refine .inl ⟨_,hw,?_⟩
      rintro _ rfl
      repeat' first|refine sW ⟨?_⟩|(refine sp ?_ ?_<;>refine λh=>⟨?_⟩)|fail
      conv=>whnf
      refine .inl ⟨_,hr,?_⟩
      rintro _ rfl
      repeat' first|refine sW ⟨?_⟩|(refine sp ?_ ?_<;>refine λh=>⟨?_⟩)|fail
      have hbad:aBa s=false:=by rw [aBa,hok1];rfl
      conv=>whnf
      exact ⟨_,_,by rw [hbad];rfl,λh=>by rw [hbad] at h;cases h⟩
    rw [hnq] at hr
    have hqd:=aHq hnq
    have hN:aGn s=aC8 q.toList:=by rw [aGn,<-hq]
    by_cases hz:q=⟨#[48]⟩
    · have hok1:aBu s=false:=by simp [aBu,<-hq,hz]
      repeat' first|refine sW ⟨?_⟩|(refine sp ?_ ?_<;>refine λh=>⟨?_⟩)|fail
      all_goals try omega
      conv=>whnf
      refine .inl ⟨_,hw,?_⟩
      rintro _ rfl
      repeat' first|refine sW ⟨?_⟩|(refine sp ?_ ?_<;>refine λh=>⟨?_⟩)|fail
      conv=>whnf
      refine .inl ⟨_,hr,?_⟩
      rintro _ rfl
      repeat' first|refine sW ⟨?_⟩|(refine sp ?_ ?_<;>refine λh=>⟨?_⟩)|fail
      all_goals first|exact absurd (e2.trans hz) (by assumption)|skip
      have hbad:aBa s=false:=by rw [aBa,hok1];rfl
      conv=>whnf
      exact ⟨_,_,by rw [hbad];rfl,λh=>by rw [hbad] at h;cases h⟩
    have hz2:¬s.extract ((k:Int)+1).toNat ((s.size:Nat):Int).toNat=⟨#[48]⟩:=λe=>hz (e2.symm.trans e)
    by_cases hone:q=bA8
    · have hok1:aBu s=false:=by simp [aBu,<-hq,hone,htwo]
      repeat' first|refine sW ⟨?_⟩|(refine sp ?_ ?_<;>refine λh=>⟨?_⟩)|fail
      all_goals try omega
      conv=>whnf
      refine .inl ⟨_,hw,?_⟩
      rintro _ rfl
      repeat' first|refine sW ⟨?_⟩|(refine sp ?_ ?_<;>refine λh=>⟨?_⟩)|fail
      conv=>whnf
      refine .inl ⟨_,hr,?_⟩
      rintro _ rfl
      repeat' first|refine sW ⟨?_⟩|(refine sp ?_ ?_<;>refine λh=>⟨?_⟩)|fail
      all_goals try omega
      all_goals first|exact absurd (e2.trans hone) (by assumption)|exact absurd (by assumption) hz2|skip
      have hbad:aBa s=false:=by rw [aBa,hok1];rfl
      conv=>whnf
      exact ⟨_,_,by rw [hbad];rfl,λh=>by rw [hbad] at h;cases h⟩
    by_cases h1:(aGo s).2.2=true/\q=bA8
    · have hok1:aBu s=false:=by simp [aBu,<-hq,h1.1,h1.2]
      exact absurd h1.2 hone
    have hok1:aBu s=true:=by
     rw [aBu,<-hp,hwp,<-hq,hnq]
     cases h2:(aGo s).2.2
     · simp [hz]
     · have:¬q=bA8:=λe=>h1 ⟨h2,e⟩
       simp [hz,this]
    have hn0:aC8 q.toList≠0:=λe=>hz (by rw [hqd,e,aB8])
    have hdl:(dec (aC8 q.toList)).length=q.size:=by rw [<- aAq,<-hqd]
    have hsz:=aOp hwp (n:=aC8 q.toList)
    have hlw:aAc Tryz.prog gl 131 [.str (s.extract (0:Int).toNat ((k:Nat):Int).toNat),.str (s.extract ((k:Int)+1).toNat ((s.size:Nat):Int).toNat)] (λx=>x= .agg [.str (aL4 p (aGn s)),.str (aL6 p (aGn s))]):=by
     rw [e1,e2,hN,hqd,aF7]
     exact aI0 gl p (aC8 q.toList) hwp hn0 (by omega) (by omega)
    have htx:aAc Tryz.prog gl 132 [.agg [.str (aL4 p (aGn s)),.str (aL6 p (aGn s))]] (λx=>x= .str (aIg (aL4 p (aGn s)) (aL6 p (aGn s)))):=by
     rw [hN]
     exact aM7 gl _ _ (by omega) (by omega)
    have hfin:aBa s=decide (aIg (aL4 p (aGn s)) (aL6 p (aGn s))=s):=by rw [aBa,hok1,<-hp];simp
    repeat' first|refine sW ⟨?_⟩|(refine sp ?_ ?_<;>refine λh=>⟨?_⟩)|fail
    all_goals try omega
    conv=>whnf
    refine .inl ⟨_,hw,?_⟩
    rintro _ rfl
    repeat' first|refine sW ⟨?_⟩|(refine sp ?_ ?_<;>refine λh=>⟨?_⟩)|fail
    conv=>whnf
    refine .inl ⟨_,hr,?_⟩
    rintro _ rfl
    repeat' first|refine sW ⟨?_⟩|(refine sp ?_ ?_<;>refine λh=>⟨?_⟩)|fail
    all_goals try omega
    all_goals first|exact absurd ⟨htwo,e2.symm.trans (by assumption)⟩ h1|exact absurd (by assumption) hz2|skip
    conv=>whnf
    refine .inl ⟨_,hlw,?_⟩
    rintro _ rfl
    repeat' first|refine sW ⟨?_⟩|(refine sp ?_ ?_<;>refine λh=>⟨?_⟩)|fail
    refine ⟨by decide +kernel,[0,0,2,0,14,7,63],by decide +kernel,?_⟩
    repeat' first|refine sW ⟨?_⟩|(refine sp ?_ ?_<;>refine λh=>⟨?_⟩)|fail
    conv=>whnf
    refine .inl ⟨_,htx,?_⟩
    repeat' first|refine sW ⟨?_⟩|(refine sp ?_ ?_<;>refine λh=>⟨?_⟩)|fail
    conv=>whnf
    rw [<- hp,hfin]
    exact ⟨_,_,rfl,λ_=>⟨rfl,rfl⟩⟩
 · have hjl:j<s.toList.length:=by omega
   have hst:=bRa s j hjl
   have h47:s.toList[j]=47↔((s.toList[j].toNat:Nat):Int)=47:=by
    rw [<- UInt8.toNat_inj];simp;omega
   rw [show ((j+1:Nat):Int) - 1=j by omega]
   repeat' first|refine sW ⟨?_⟩|(refine sp ?_ ?_<;>refine λh=>⟨?_⟩)|fail
   · have e:(j:Nat)=atF s j:=by rw [hst,if_pos (h47.2 h)]
     exact ⟨[0],j,rfl,by omega,j,by omega,rfl,Eq.trans rfl (congrArg (λz:Nat=>(⟨[(0,.str s),(2,.bptr 0 0),(4,.int .i64 ((z:Nat):Int)),(5,.int .i64 ((j:Int) - 1))],[.box 124 [.str ⟨#[]⟩,.str ⟨#[]⟩]]⟩:St)) e)⟩
   · have e:atF s (j+1)=atF s j:=by rw [hst,if_neg (λe=>h (h47.1 e))]
     exact ⟨[0],j,rfl,by omega,j,by omega,rfl,Eq.trans rfl (congrArg (λz:Nat=>(⟨[(0,.str s),(2,.bptr 0 0),(4,.int .i64 ((z:Nat):Int)),(5,.int .i64 ((j:Int) - 1))],[.box 124 [.str ⟨#[]⟩,.str ⟨#[]⟩]]⟩:St)) e)⟩
end Go.V
namespace Go.V
open Go.N Go.Proofs
open Go.RowKit
mutual
def aC7:AV->AV->Prop
 | .fr _ sz es,y=>y= .ro sz es
 | .nils,y=>∃sz,y= .ro sz []
 | .agg xs,y=>∃ys,y= .agg ys/\bGu xs ys
 | .tup xs,y=>∃ys,y= .tup ys/\bGu xs ys
 |x,y=>y=x
def bGu:List AV->List AV->Prop
 |[],ys=>ys=[]
 |x::xs,ys=>∃y r,ys=y::r/\aC7 x y/\bGu xs r
end
mutual
theorem bOj {S:Nat->Prop}{b:Nat}{w:World}:∀(x:AV) (v:Value) (F:List (Nat×Nat)),aDw S b w x v F->∀q∈F,q.1<w.heap.size
 | .fr e sz es,v,F,h=>by
   simp only [aDw] at h
   obtain ⟨c,cap,rfl,_,_,cur,vss,hh,_⟩:=h
   intro q hq;simp at hq;subst hq
   exact (Array.getElem?_eq_some_iff.1 hh).1
 | .agg cs,v,F,h=>by
   simp only [aDw] at h
   obtain ⟨vs,e,h1,h2⟩:=h
   exact aR0 cs vs F h2
 | .tup cs,v,F,h=>by
   simp only [aDw] at h
   obtain ⟨vs,e,h2⟩:=h
   exact aR0 cs vs F h2
 | .j,v,F,h| .u,v,F,h| .int _ _,v,F,h| .bool _,v,F,h| .str _,v,F,h| .nils,v,F,h| .nili,v,F,h
 | .own _ _ _,v,F,h| .ptr _ _ _,v,F,h| .bptr _ _,v,F,h| .map _,v,F,h| .rp _,v,F,h| .ro _ _,v,F,h| .fn _ _,v,F,h| .iface _ _,v,F,h=>by
   simp only [aDw] at h;rw [h.1];simp
theorem aR0 {S:Nat->Prop}{b:Nat}{w:World}:∀(xs:List AV) (vs:List Value) (F:List (Nat×Nat)),aC5 S b w xs vs F->∀q∈F,q.1<w.heap.size
 |[],vs,F,h=>by simp only [aC5] at h;rw [h.2];simp
 |x::xs,vs,F,h=>by
  simp only [aC5] at h
  obtain ⟨v,r,F1,F2,rfl,rfl,h1,h2⟩:=h
  intro q hq
  rcases List.mem_append.1 hq with hq|hq
  · exact bOj x v F1 h1 q hq
  · exact aR0 xs r F2 h2 q hq
end
mutual
theorem bGg {S:Nat->Prop}{b:Nat}{w:World}:∀(x y:AV) (v:Value) (F:List (Nat×Nat)),aC7 x y->aDw S b w x v F->aDw (λq=>S q\/q∈F.map (·.1)) b w y v []
 | .fr e sz es,y,v,F,hy,h=>by
   simp only [aC7] at hy
   subst hy
   simp only [aDw] at h ⊢
   obtain ⟨c,cap,rfl,rfl,hB,hrow⟩:=h
   exact ⟨trivial,bOp hrow (.inr (by simp)) λq hq=>.inl hq⟩
 | .nils,y,v,F,hy,h=>by
   simp only [aC7] at hy
   obtain ⟨sz,rfl⟩:=hy
   simp only [aDw,aAi] at h ⊢
   obtain ⟨rfl,rfl⟩:=h
   refine ⟨trivial,none,0,?_⟩
   simp
 | .agg xs,y,v,F,hy,h=>by
   simp only [aC7] at hy
   obtain ⟨ys,rfl,hl⟩:=hy
   simp only [aDw] at h ⊢
   obtain ⟨vs,e,h1,h2⟩:=h
   exact ⟨vs,e,h1,aR1 xs ys vs F hl h2⟩
 | .tup xs,y,v,F,hy,h=>by
   simp only [aC7] at hy
   obtain ⟨ys,rfl,hl⟩:=hy
   simp only [aDw] at h ⊢
   obtain ⟨vs,e,h2⟩:=h
   exact ⟨vs,e,aR1 xs ys vs F hl h2⟩
 | .j,y,v,F,hy,h| .u,y,v,F,hy,h| .int _ _,y,v,F,hy,h| .bool _,y,v,F,hy,h| .str _,y,v,F,hy,h| .nili,y,v,F,hy,h
 | .own _ _ _,y,v,F,hy,h| .ptr _ _ _,y,v,F,hy,h| .bptr _ _,y,v,F,hy,h| .map _,y,v,F,hy,h| .rp _,y,v,F,hy,h| .ro _ _,y,v,F,hy,h| .fn _ _,y,v,F,hy,h| .iface _ _,y,v,F,hy,h=>by
   simp only [aC7] at hy
   subst hy
   simp only [aDw] at h ⊢
   exact ⟨trivial,aAi.later (aDm λq hq=>.inl hq) _ v h.2⟩
theorem aR1 {S:Nat->Prop}{b:Nat}{w:World}:∀(xs ys:List AV) (vs:List Value) (F:List (Nat×Nat)),bGu xs ys->aC5 S b w xs vs F->aC5 (λq=>S q\/q∈F.map (·.1)) b w ys vs []
 |[],ys,vs,F,hy,h=>by
  simp only [bGu] at hy
  subst hy
  simp only [aC5] at h ⊢;exact ⟨h.1,trivial⟩
 |x::xs,ys,vs,F,hy,h=>by
  simp only [bGu] at hy
  obtain ⟨y,r',rfl,hy1,hy2⟩:=hy
  simp only [aC5] at h ⊢
  obtain ⟨v,r,F1,F2,rfl,rfl,h1,h2⟩:=h
  have k1:=bGg x y v F1 hy1 h1
  have k2:=aR1 xs r' r F2 hy2 h2
  refine ⟨v,r,[],[],rfl,rfl,aHw (aDm λq hq=>?_) _ _ _ k1 (by simp),aGf (aDm λq hq=>?_) _ _ _ k2 (by simp)⟩
  · rcases hq with hq|hq
    · exact .inl hq
    · exact .inr (by rw [List.map_append];exact List.mem_append_left _ hq)
  · rcases hq with hq|hq
    · exact .inl hq
    · exact .inr (by rw [List.map_append];exact List.mem_append_right _ hq)
end
theorem aAc.taken {P:Program}{gl:Gl}{f:FuncId}{args:List AV}{R:AV->Prop}(h:aAc P gl f args (λx=>∃y,aC7 x y/\R y)):aAc P gl f args R:=by
 intro S w vs h1 h2 h3
 refine (h S w vs h1 h2 h3).mono λv w' hh=>?_
 obtain ⟨x,⟨y,hxy,hR⟩,⟨S',F,hF,hnd,hFS,hS'⟩,hb⟩:=hh
 refine ⟨y,hR,?_,hb⟩
 have hge:=aXc _ _ _ hF
 have hlt:=bOj _ _ _ hF
 refine ⟨λq=>S' q\/q∈F.map (·.1),[],bGg _ _ _ _ hxy hF,by simp,by simp,?_⟩
 rintro q (hq|hq)
 · exact hS' q hq
 · obtain ⟨y,hy,rfl⟩:=List.mem_map.1 hq
   exact ⟨hlt y hy,.inr (hge y hy)⟩
end Go.V
namespace Go.V
open Go.N Go.Proofs
structure Nd where
 op:ByteArray
 a:Int
 b:Int
 name:ByteArray
 shape:List Int
 k:ByteArray
 n:Int
 data:List ByteArray
structure Gr where
 nodes:List Nd
 loss:Int
def Nd.cells (x:Nd):List AV:=[.str x.op,.int .i64 x.a,.int .i64 x.b,.str x.name,.ro 1 (aAh x.shape),.str x.k,.int .i64 x.n,.ro 1 (aCm x.data)]
def aAv (l:List Nd):List (List AV):=l.map Nd.cells
@[simp] theorem rowN_length (l:List Nd):(aAv l).length=l.length:=by simp [aAv]
theorem aB1 {l:List Nd}{k:Nat}(h:k<l.length):(aAv l)[k]? =some l[k].cells:=by simp [aAv,h]
def Gr.cells (g:Gr):List AV:=[.ro 8 (aAv g.nodes),.int .i64 g.loss]
abbrev aGh:ByteArray:=⟨#[112,97,114,97,109]⟩
abbrev aKv:ByteArray:=⟨#[105,110,112,117,116]⟩
abbrev aA0:ByteArray:=⟨#[99,111,110,115,116]⟩
abbrev aMk:ByteArray:=⟨#[114,101,108,117]⟩
abbrev bGj:ByteArray:=⟨#[97,98,115]⟩
abbrev aXj:ByteArray:=⟨#[115,116,101,112]⟩
abbrev aXi:ByteArray:=⟨#[115,105,103,110]⟩
abbrev aB4:ByteArray:=⟨#[115,99,97,108,101]⟩
abbrev aCn:ByteArray:=⟨#[112,111,119,101,114]⟩
abbrev aF1:ByteArray:=⟨#[116,114,97,110,115,112,111,115,101]⟩
abbrev bPc:ByteArray:=⟨#[115,117,109]⟩
abbrev aE7:ByteArray:=⟨#[114,101,115,104,97,112,101]⟩
abbrev aGi:ByteArray:=⟨#[115,112,114,101,97,100]⟩
abbrev bBe:ByteArray:=⟨#[97,100,100]⟩
abbrev bI2:ByteArray:=⟨#[115,117,98]⟩
abbrev bI1:ByteArray:=⟨#[109,117,108]⟩
abbrev aXv:ByteArray:=⟨#[109,97,120]⟩
abbrev aHy:ByteArray:=⟨#[97,98,111,118,101]⟩
abbrev aJo:ByteArray:=⟨#[109,97,116,109,117,108]⟩
def bA9:List ByteArray:=[aGh,aKv,aA0]
def bBa:List ByteArray:=[aMk,bGj,aXj,aXi,aB4,aCn,aF1,bPc,aE7,aGi]
def bBb:List ByteArray:=[bBe,bI2,bI1,aXv,aHy,aJo]
def aIb (s:ByteArray) (l:List ByteArray):Bool:=l.any λt=>decide (s=t)
def aBh (s:ByteArray):Option Nat:=if aIb s bA9=true then some 0 else if aIb s bBa=true then some 1 else if aIb s bBb=true then some 2 else none
def aEe (s:ByteArray):Nat:=(aBh s).getD 0
inductive Opc where
 |param|input|const|relu|abs|step|sign|scale|power|transpose|sum|reshape|spread|add|sub|mul|max|above|matmul
def Opc.str:Opc->ByteArray
 | .param=>aGh| .input=>aKv| .const=>aA0| .relu=>aMk| .abs=>bGj| .step=>aXj| .sign=>aXi| .scale=>aB4| .power=>aCn| .transpose=>aF1| .sum=>bPc
 | .reshape=>aE7| .spread=>aGi| .add=>bBe| .sub=>bI2| .mul=>bI1| .max=>aXv| .above=>aHy| .matmul=>aJo
theorem aQk {s:ByteArray}{l:List ByteArray}(k:List Opc) (e:l=k.map Opc.str) (h:aIb s l=true):∃o,s=Opc.str o:=by
 obtain ⟨t,ht,h2⟩:=List.any_eq_true.1 h
 rw [e] at ht
 obtain ⟨o,_,rfl⟩:=List.mem_map.1 ht
 exact ⟨o,of_decide_eq_true h2⟩
theorem aMe (s:ByteArray):(∃ o,s=Opc.str o)\/aBh s=none:=by
 cases h0:aIb s bA9
 · cases h1:aIb s bBa
   · cases h2:aIb s bBb
     · right;rw [aBh,h0,h1,h2];rfl
     · exact .inl (aQk [.add,.sub,.mul,.max,.above,.matmul] rfl h2)
   · exact .inl (aQk [.relu,.abs,.step,.sign,.scale,.power,.transpose,.sum,.reshape,.spread] rfl h1)
 · exact .inl (aQk [.param,.input,.const] rfl h0)
theorem aNi {s:ByteArray}{m:Nat}(h:aBh s=some m):m<=2:=by
 unfold aBh at h
 split at h
 · cases h;omega
 · split at h
   · cases h;omega
   · split at h
     · cases h;omega
     · cases h
def aIp (s:ByteArray):Int:=match aBh s with|some m=>(m:Int)|none=>-1
def cEp (x:Nd):List Int:=match aBh x.op with|some 0=>[]|some 2=>[x.a,x.b]|_=>[x.a]
def aGy (s:ByteArray):Bool:=decide (0<s.size/\s.size<9) && s.toList.all aRq && (match s.toList.head? with|none=>false|some c=>decide (97<=c.toNat/\c.toNat<=122))
theorem aNg {s:ByteArray}(h1:0<s.toList.length):aGy s=true↔s.size<9/\s.toList.all aRq=true/\97<=s.toList[0].toNat/\s.toList[0].toNat<=122:=by
 have hl:=Go.N.len_toList s
 have e:s.toList.head? =some s.toList[0]:=by rw [List.head?_eq_getElem?,List.getElem?_eq_getElem h1]
 rw [aGy,e]
 simp only [Bool.and_eq_true,decide_eq_true_eq]
 constructor
 · rintro ⟨⟨⟨_,a⟩,b⟩,c⟩;exact ⟨a,b,c⟩
 · rintro ⟨a,b,c⟩;exact ⟨⟨⟨by omega,a⟩,b⟩,c⟩
theorem aGz:aGy ⟨#[]⟩=false:=by decide +kernel
theorem bFb {s:ByteArray}(h:s.size=0):s=⟨#[]⟩:=aBl (by
 have:s.toList=[]:=List.length_eq_zero_iff.1 (by rw [Go.N.len_toList];exact h)
 rw [this,ByteArray.toList_eq])
def aA7 (s:ByteArray):Bool:=decide (s=aGh) || decide (s=aKv)
def aTq (x:Nd) (m:Nat):Bool:=
 (decide (0<(m:Int)) || decide (x.a=0)) && ((decide (1<(m:Int)) || decide (x.b=0)) && ((aGy x.name == aA7 x.op) && ((aA7 x.op || decide (x.name=⟨#[]⟩)) &&
   ((decide (x.k=⟨#[]⟩) || decide (x.op=aB4)) && ((decide (x.n=0) || decide (x.op=aCn)) && (decide ((x.data.length:Int)=0) || decide (x.op=aA0)))))))
structure Nd.Sm (x:Nd):Prop where
 name:x.name.size<=1000
 k:x.k.size<=1000
 shape:x.shape.length<=1000
 data:x.data.length<=1000
 each:∀d∈x.data,d.size<=1000
def ofZ (x:Nd) (a b:List Int):List Int×Bool:=
 if x.op=aA0 then (x.shape,decide ((x.data.length:Int)=aDj x.shape) && !(x.data.any λd=> !aBa d))
 else if x.op=bBe\/x.op=bI2\/x.op=bI1\/x.op=aXv\/x.op=aHy then (a,decide (a=b))
 else if x.op=aJo then (match a,b with|[p,q],[r,s]=>if q=r then ([p,s],true) else ([],false)|_,_=>([],false))
 else if x.op=aMk\/x.op=bGj\/x.op=aXj\/x.op=aXi then (a,true)
 else if x.op=aB4 then (a,aBa x.k)
 else if x.op=aCn then (a,decide (0<=x.n) && decide (x.n<=6))
 else if x.op=aF1 then (match a with|[p,q]=>([q,p],true)|_=>([],false))
 else if x.op=bPc then ([],true)
 else if x.op=aE7 then (x.shape,decide (aDj x.shape=aDj a))
 else if x.op=aGi then (x.shape,decide ((a.length:Int)=0))
 else (x.shape,true)
theorem aKd {a b:List Int}(h:¬(a.length=2/\b.length=2/\a[1]? =b[0]?)):(match a,b with|[p,q],[r,s]=>if q=r then (([p,s]:List Int),true) else ([],false)|_,_=>([],false))=([],false):=by
 split
 · rename_i p q r s
   rw [if_neg]
   intro e;subst e;exact h ⟨rfl,rfl,rfl⟩
 · rfl
theorem aIm {a:List Int}(h:a.length≠2):(match a with|[p,q]=>(([q,p]:List Int),true)|_=>([],false))=([],false):=by
 split
 · exact absurd rfl h
 · rfl
theorem aKw {a:List Int}(h:a.length=2):∃p q,a=[p,q]:=by
 match a,h with
 |[p,q],_=>exact ⟨p,q,rfl⟩
theorem bF3 {s:ByteArray}(h:aBh s=none) (o:Opc):¬s=o.str:=λe=>by
 rw [e] at h
 cases o<;>exact absurd h (by decide)
theorem bSo {x:Nd}{a b:List Int}(h:aBh x.op=none):ofZ x a b=(x.shape,true):=by
 have k:=bF3 h
 have k1:¬x.op=aA0:=k .const
 have k2:¬(x.op=bBe\/x.op=bI2\/x.op=bI1\/x.op=aXv\/x.op=aHy):=by
  rintro (e|e|e|e|e)
  · exact k .add e
  · exact k .sub e
  · exact k .mul e
  · exact k .max e
  · exact k .above e
 have k3:¬x.op=aJo:=k .matmul
 have k4:¬(x.op=aMk\/x.op=bGj\/x.op=aXj\/x.op=aXi):=by
  rintro (e|e|e|e)
  · exact k .relu e
  · exact k .abs e
  · exact k .step e
  · exact k .sign e
 have k5:¬x.op=aB4:=k .scale
 have k6:¬x.op=aCn:=k .power
 have k7:¬x.op=aF1:=k .transpose
 have k8:¬x.op=bPc:=k .sum
 have k9:¬x.op=aE7:=k .reshape
 have k0:¬x.op=aGi:=k .spread
 unfold ofZ
 rw [if_neg k1,if_neg k2,if_neg k3,if_neg k4,if_neg k5,if_neg k6,if_neg k7,if_neg k8,if_neg k9,if_neg k0]
theorem x_0 {es:List (List AV)}{c:List AV}{K:List AV->Prop}(h:es[0]? =some c) (k:K c):∃(m:Nat) (x:List AV),(0:Int)=(m:Int)/\es[m]? =some x/\K x:=⟨0,c,rfl,h,k⟩
theorem x_1 {es:List (List AV)}{c:List AV}{K:List AV->Prop}(h:es[1]? =some c) (k:K c):∃(m:Nat) (x:List AV),(1:Int)=(m:Int)/\es[m]? =some x/\K x:=⟨1,c,rfl,h,k⟩
theorem aAf {a b c d:AV}(h1:aC7 a c) (h2:aC7 b d):aC7 (.tup [a,b]) (.tup [c,d]):=⟨_,rfl,_,_,rfl,h1,_,_,rfl,h2,rfl⟩
theorem cHx {a b c d e f:AV}(h1:aC7 a d) (h2:aC7 b e) (h3:aC7 c f):aC7 (.tup [a,b,c]) (.tup [d,e,f]):=⟨_,rfl,_,_,rfl,h1,_,_,rfl,h2,_,_,rfl,h3,rfl⟩
theorem aFo {a b c d:AV}(h1:aC7 a c) (h2:aC7 b d):aC7 (.agg [a,b]) (.agg [c,d]):=⟨_,rfl,_,_,rfl,h1,_,_,rfl,h2,rfl⟩
theorem bD4 {x:Nd}{a b:List Int}(hx:x.Sm) (ha:a.length<=1000) (hb:b.length<=1000):(ofZ x a b).1.length<=1000:=by
 have:=hx.shape
 unfold ofZ
 repeat' split
 all_goals simp
 all_goals assumption
def inR (i:Int) (l:List Nd):Bool:=decide (0<=i) && decide (i<l.length)
theorem aBc {i:Int}{l:List Nd}(h:inR i l=true):∃k:Nat,i=k/\k<l.length:=by
 simp only [inR,Bool.and_eq_true,decide_eq_true_eq] at h
 exact ⟨i.toNat,by omega,by omega⟩
theorem aQl {i:Int}{l:List Nd}(h:inR i l=false):i<0\/(l.length:Int)<=i:=by
 simp only [inR,Bool.and_eq_false_iff,decide_eq_false_iff_not] at h
 omega
def aBv (l:List Nd) (i:Int):List Int:=match l[i.toNat]? with|some x=>x.shape|none=>[]
theorem aAp {l:List Nd}{k:Nat}(h:k<l.length):aBv l k=l[k].shape:=by
 rw [aBv,Int.toNat_natCast,List.getElem?_eq_getElem h]
def aN8 (l:List Nd) (x:Nd) (m:Nat):Bool:=aTq x m && ((decide (m=0) || inR x.a l) && (decide (m<2) || inR x.b l))
def okZ (r:List Int×Bool):Option (List Int):=if (r.2 && aAl r.1)=true then some r.1 else none
def aCu (l:List Nd) (x:Nd):Option (List Int):=
 match aBh x.op with
 |none=>none
 |some m=>if aN8 l x m=true then okZ (ofZ x (if m=0 then [] else aBv l x.a) (if m<2 then [] else aBv l x.b)) else none
theorem aK9 {l:List Nd}{x:Nd}(h:aBh x.op=none):aCu l x=none:=by simp only [aCu,h]
theorem aEd {l:List Nd}{x:Nd}{m:Nat}(h:aBh x.op=some m) (hb:aN8 l x m=false):aCu l x=none:=by simp [aCu,h,hb]
theorem aEo {l:List Nd}{x:Nd}{m:Nat}(h:aBh x.op=some m) (hb:aN8 l x m=true):aCu l x=okZ (ofZ x (if m=0 then [] else aBv l x.a) (if m<2 then [] else aBv l x.b)):=by simp only [aCu,h,hb,if_true]
def aXu (x:Nd) (a b:List Int):List Int×Bool:=
 if (ofZ x a b).2=false then ([],false) else if aAl (ofZ x a b).1=true then ((ofZ x a b).1,true) else if x.op=aA0\/x.op=aE7 then ([],false) else ((ofZ x a b).1,false)
def bD8 (l:List Nd) (x:Nd):List Int×Bool:=
 match aBh x.op with
 |none=>([],false)
 |some m=>if aN8 l x m=true then aXu x (if m=0 then [] else aBv l x.a) (if m<2 then [] else aBv l x.b) else ([],false)
theorem bOg {l:List Nd}{x:Nd}(h:aBh x.op=none):bD8 l x=([],false):=by simp only [bD8,h]
theorem bS1 {l:List Nd}{x:Nd}{m:Nat}(h:aBh x.op=some m) (hb:aN8 l x m=false):bD8 l x=([],false):=by simp [bD8,h,hb]
theorem bXn {l:List Nd}{x:Nd}{m:Nat}(h:aBh x.op=some m) (hb:aN8 l x m=true):bD8 l x=aXu x (if m=0 then [] else aBv l x.a) (if m<2 then [] else aBv l x.b):=by simp only [bD8,h,hb,if_true]
theorem cAz (x:Nd) (a b:List Int):(aXu x a b).2=(okZ (ofZ x a b)).isSome/\((aXu x a b).2=true->okZ (ofZ x a b)=some (aXu x a b).1):=by
 unfold aXu okZ
 generalize ofZ x a b=r
 obtain ⟨s,ok⟩:=r
 cases ok<;>cases h:aAl s<;>simp [h]
 all_goals split<;>simp
theorem bIz (l:List Nd) (x:Nd):(bD8 l x).2=(aCu l x).isSome/\((bD8 l x).2=true->aCu l x=some (bD8 l x).1):=by
 unfold bD8 aCu
 cases aBh x.op with
 |none=>simp
 |some m=>
  dsimp only
  cases aN8 l x m with
  |false=>simp
  |true=>simp only [if_true];exact cAz _ _ _
structure Fit (l:List Nd) (x:Nd) (m:Nat):Prop where
 a0:m=0->x.a=0
 b0:m<2->x.b=0
 nm:aA7 x.op=true->aGy x.name=true
 nn:aA7 x.op=false->x.name=⟨#[]⟩
 k:x.op≠aB4->x.k=⟨#[]⟩
 n:x.op≠aCn->x.n=0
 d:x.op≠aA0->x.data.length=0
 ia:0<m->inR x.a l=true
 ib:1<m->inR x.b l=true
theorem aI7 (l:List Nd) (x:Nd) (m:Nat):aN8 l x m=true↔Fit l x m:=by
 have e:∀{p:Prop} {q:Prop} [Decidable p] [Decidable q],(decide p || decide q)=true↔(¬p->q):=by intro p q _ _;by_cases p<;>by_cases q<;>simp_all
 have e2:(decide ((x.data.length:Int)=0) || decide (x.op=aA0))=true↔(x.op≠aA0->x.data.length=0):=by
  rw [Bool.or_comm,e];constructor<;>intro h1 h2<;>have:=h1 h2<;>omega
 have e3:(aGy x.name == aA7 x.op)=true/\(aA7 x.op || decide (x.name=⟨#[]⟩))=true↔((aA7 x.op=true->aGy x.name=true)/\(aA7 x.op=false->x.name=⟨#[]⟩)):=by
  cases h:aA7 x.op
  · simp only [beq_false,Bool.not_eq_true',Bool.false_or,decide_eq_true_eq,Bool.false_eq_true,false_implies,true_and,forall_const]
    exact ⟨λhh=>hh.2,λhh=>⟨by rw [hh];exact aGz,hh⟩⟩
  · simp
 have e4:(decide (0<(m:Int)) || decide (x.a=0))=true↔(m=0->x.a=0):=by rw [e];constructor<;>intro h1 h2<;>exact h1 (by omega)
 have e5:(decide (1<(m:Int)) || decide (x.b=0))=true↔(m<2->x.b=0):=by rw [e];constructor<;>intro h1 h2<;>exact h1 (by omega)
 have e6:(decide (x.k=⟨#[]⟩) || decide (x.op=aB4))=true↔(x.op≠aB4->x.k=⟨#[]⟩):=by rw [Bool.or_comm,e]
 have e7:(decide (x.n=0) || decide (x.op=aCn))=true↔(x.op≠aCn->x.n=0):=by rw [Bool.or_comm,e]
 have e8:(decide (m=0) || inR x.a l)=true↔(0<m->inR x.a l=true):=by
  rcases Nat.eq_zero_or_pos m with h|h
  · simp [h]
  · have:¬m=0:=by omega
    simp [h,this]
 have e9:(decide (m<2) || inR x.b l)=true↔(1<m->inR x.b l=true):=by
  rcases Nat.lt_or_ge m 2 with h|h
  · have:¬1<m:=by omega
    simp [h,this]
  · have h1:¬m<2:=by omega
    have h2:1<m:=by omega
    simp [h1,h2]
 rw [aN8,Bool.and_eq_true,Bool.and_eq_true,e8,e9,aTq,Bool.and_eq_true,Bool.and_eq_true,Bool.and_eq_true,Bool.and_eq_true,Bool.and_eq_true,Bool.and_eq_true,e2,e4,e5,e6,e7]
 constructor
 · rintro ⟨⟨h1,h2,h3,h4,h5,h6,h7⟩,h8,h9⟩
   have:=e3.1 ⟨h3,h4⟩
   exact ⟨h1,h2,this.1,this.2,h5,h6,h7,h8,h9⟩
 · intro h
   have:=e3.2 ⟨h.nm,h.nn⟩
   exact ⟨⟨h.a0,h.b0,this.1,this.2,h.k,h.n,h.d⟩,h.ia,h.ib⟩
theorem bZ8 {l:List Nd}{x:Nd}{m:Nat}(h:aN8 l x m=false) (k:Fit l x m):False:=by rw [(aI7 l x m).2 k] at h;cases h
def Opc.many:Opc->Nat
 | .param| .input| .const=>0
 | .relu| .abs| .step| .sign| .scale| .power| .transpose| .sum| .reshape| .spread=>1
 |_=>2
theorem aFw (o:Opc):aBh o.str=some o.many:=by cases o<;>rfl
theorem bXo {x:Nd}{a b s:List Int}(h:ofZ x a b=(s,true)) (hc:¬(x.op=aA0\/x.op=aE7)):aXu x a b=(s,aAl s):=by
 rw [aXu,h,if_neg (by simp),if_neg hc]
 cases aAl s<;>rfl
theorem bOh {x:Nd}{a b s:List Int}(h:ofZ x a b=(s,true)) (hs:aAl s=true):aXu x a b=(s,true):=by
 rw [aXu,h,if_neg (by simp),if_pos hs]
theorem aD9 {x:Nd}{a b:List Int}(h:(ofZ x a b).2=false):aXu x a b=([],false):=by rw [aXu,if_pos h]
theorem bGa {x:Nd}{a b:List Int}(hc:x.op=aA0\/x.op=aE7) (h:aAl (ofZ x a b).1=false):aXu x a b=([],false):=by
 rw [aXu,h,if_neg (by simp:¬false=true),if_pos hc]
 split<;>rfl
theorem cAe {i:Int}{l:List Nd}(h1:¬i<0) (h2:¬(l.length:Int)<=i):inR i l=true:=by simp [inR];omega
theorem aDr (o:Opc){x:Nd}{a b s:List Int}(ho:x.op=o.str) (h:ofZ x a b=(s,true)) (hc:¬(o.str=aA0\/o.str=aE7)):aXu x a b=(s,aAl s):=bXo h (by rw [ho];exact hc)
theorem aBz {l:List Nd}{i:Nat}(h:i<l.length):∃o1 a1 b1 n1 k1 m1 d1,(aAv l)[i]? =some [.str o1,.int .i64 a1,.int .i64 b1,.str n1,.ro 1 (aAh l[i].shape),.str k1,.int .i64 m1,.ro 1 d1]:=⟨_,_,_,_,_,_,_,aB1 h⟩
def aC9 (x y:Nd):Bool:=decide (x.name=⟨#[]⟩) || !decide (y.name=x.name)
def bAf (l:List Nd) (x:Nd):Bool:=decide (aCu l x=some x.shape) && l.all (aC9 x)
def bD1 (l:List Nd) (k:Nat):Bool:=match l[k]? with|some x=>bAf (l.take k) x|none=>true
theorem bNy {l:List Nd}{k:Nat}(h:k<l.length):bD1 l k=bAf (l.take k) l[k]:=by rw [bD1,List.getElem?_eq_getElem h]
def aHd (l:List Nd) (i:Nat):Bool:=(List.range i).all (bD1 l)
theorem aHl (l:List Nd) (i:Nat):aHd l (i+1)=(aHd l i && bD1 l i):=by simp [aHd,List.range_succ]
theorem aYx {l:List Nd}{i n:Nat}(h:i<n) (hb:bD1 l i=false):aHd l n=false:=List.all_eq_false.2 ⟨i,List.mem_range.2 h,by simp [hb]⟩
def bBc (g:Gr):Bool:=decide (1<=g.nodes.length) && decide (g.nodes.length<=200) && inR g.loss g.nodes && decide (aBv g.nodes g.loss=[])
def aC1 (g:Gr):Bool:=bBc g && aHd g.nodes g.nodes.length
theorem aT3 (x:ByteArray) (v:AV) (y:ByteArray):∀l,aEz (aXw l x v) y=if y=x then some v else aEz l y
 |[]=>by simp [aXw,aEz]
 |(k,w)::r=>by
  unfold aXw
  split
  · rename_i h;subst h;simp only [aEz];split<;>rfl
  · rename_i h
    simp only [aEz,aT3 x v y r]
    by_cases h2:y=k
    · have:¬y=x:=λe=>h (by rw [<- e,h2])
      simp [h2,show ¬k=x from λe=>h e.symm]
    · simp [h2]
def bMr (l:List Nd) (s:ByteArray):Nat:=l.countP λy=>decide (y.name=s)
def bPm (kv:List (ByteArray×AV)) (l:List Nd):Prop:=∀s,AV.int .i64 ((bMr l s:Nat):Int)=(aEz kv s).getD (.int .i64 0)
theorem bNq:bPm [] []:=λs=>rfl
theorem bIt {kv:List (ByteArray×AV)}{l:List Nd}{x:Nd}{e:Int}(h:bPm kv l) (he:e=(bMr l x.name:Nat)+1):bPm (aXw kv x.name (.int .i64 e)) (l++[x]):=λs=>by
 rw [aT3,bMr,List.countP_append]
 by_cases hs:s=x.name
 · subst hs;rw [if_pos rfl,he];simp [bMr]
 · rw [if_neg hs,<-h s];simp [bMr,show ¬x.name=s from λe=>hs e.symm]
theorem bWb {l:List Nd}{x:Nd}(hn:x.name≠⟨#[]⟩):0<bMr l x.name↔l.all (aC9 x)=false:=by
 rw [bMr,List.countP_pos_iff,List.all_eq_false]
 constructor
 · rintro ⟨y,hy,h⟩;exact ⟨y,hy,by simp only [aC9,decide_eq_true_eq] at h ⊢;simp [hn,h]⟩
 · rintro ⟨y,hy,h⟩;refine ⟨y,hy,?_⟩;simp only [aC9] at h;simp [hn] at h;simp [h]
theorem bZt (l:List Nd) (s:ByteArray):bMr l s<=l.length:=List.countP_le_length
theorem Xq {l:List (ByteArray×AV)}{k:ByteArray}{d v:AV}{K:AV->Prop}(h:v=(aEz l k).getD d) (hk:K v):∃r,r=(aEz l k).getD d/\K r:=⟨v,h,hk⟩
theorem aJq (l:List Nd) (i:Nat):aAv (l.take i)=((aAv l).drop (0:Int).toNat).take ((i:Int).toNat - (0:Int).toNat):=by simp [aAv]
theorem sY {p q:Prop}(k:Bx q) (h:Bx q->p:=by
 intro k
 (first|((conv=>whnf);first|((with_reducible apply Xq);assumption)|(with_reducible first|apply Xa|(first|apply xi|apply xu|apply x8|apply x3|apply xn|apply xp|apply xP|refine xs ?_ ?_|refine xS ?_ ?_|refine xZ ?_ ?_|refine xl ?_ ?_|refine xd ?_ ?_|refine xy ?_ ?_|refine xL ?_ ?_|refine xD ?_ ?_|apply xx);omega|apply Xm|apply Xe|refine Xg (by assumption) ?_)|refine Xo (by assumption) ?_|refine x_0 (by first|assumption|rfl) ?_|refine x_1 (by first|assumption|rfl) ?_|refine Or.inl ⟨rfl,?_⟩|(refine Or.inl ⟨_,by assumption,?_⟩;first|rintro _ rfl|skip)))
 repeat' (first|((conv=>whnf);first|((with_reducible apply Xq);assumption)|(with_reducible first|apply Xa|(first|apply xi|apply xu|apply x8|apply x3|apply xn|apply xp|apply xP|refine xs ?_ ?_|refine xS ?_ ?_|refine xZ ?_ ?_|refine xl ?_ ?_|refine xd ?_ ?_|refine xy ?_ ?_|refine xL ?_ ?_|refine xD ?_ ?_|apply xx);omega|apply Xm|apply Xe|refine Xg (by assumption) ?_)|refine Xo (by assumption) ?_|refine x_0 (by first|assumption|rfl) ?_|refine x_1 (by first|assumption|rfl) ?_|refine Or.inl ⟨rfl,?_⟩|(refine Or.inl ⟨_,by assumption,?_⟩;first|rintro _ rfl|skip)))
 exact k.out):p:=h k
theorem sK {p q:Prop}(k:Bx q) (h:Bx q->p:=by
 intro k
 conv=>whnf
 split<;>(first|(rename_i u h;clear u)|rename_i h)<;>(try rewrite [h])<;>(first|replace h:=dt h|replace h:=df h|replace h:=Nt h|replace h:=Nf h|skip)<;>(try dsimp only at h)<;>(first|contradiction|(exfalso;omega)|with_reducible exact k.out)):p:=h k
theorem sV {p q:Prop}(k:Bx q) (h:Bx q->p:=by
 intro k
 first|refine sY ⟨?_⟩|refine sK ⟨?_⟩
 repeat' (first|refine sY ⟨?_⟩|refine sK ⟨?_⟩)
 exact k.out):p:=h k
theorem sq {p c d q r:Prop}(k:c->Bx q) (l:d->Bx r) (h:(c->Bx q)->(d->Bx r)->p:=by
 intro k l
 conv=>whnf
 split<;>(first|(rename_i u h;clear u)|rename_i h)<;>(try rewrite [h])<;>(first|replace h:=dt h|replace h:=df h|replace h:=Nt h|replace h:=Nf h|skip)<;>(try dsimp only at h)
 · exact (k h).out
 · exact (l h).out):p:=h k l
end Go.V
namespace Go.V
open Go.N Go.Proofs
set_option maxRecDepth 20000
mutual
def bPf:AV->AV->Prop
 | .nils,y=>y= .nils\/∃sz,y= .ro sz []
 | .ro sz es,y=>∃es',y= .ro sz es'/\aKp es es'
 | .agg cs,y=>∃cs',y= .agg cs'/\aLg cs cs'
 |x,y=>y=x
def aLg:List AV->List AV->Prop
 |[],ys=>ys=[]
 |x::xs,ys=>∃y r,ys=y::r/\bPf x y/\aLg xs r
def aKp:List (List AV)->List (List AV)->Prop
 |[],ys=>ys=[]
 |x::xs,ys=>∃y r,ys=y::r/\aLg x y/\aKp xs r
end
theorem aTo:∀(es es':List (List AV)),aKp es es'->es'.length=es.length
 |[],_,h=>by simp only [aKp] at h;rw [h]
 |_::xs,_,h=>by
  simp only [aKp] at h
  obtain ⟨y,r,rfl,_,h⟩:=h
  simp [aTo xs r h]
mutual
theorem bQ9 {S:Nat->Prop}{H:Hp}{w:World}:∀(x y:AV) (v:Value),bPf x y->aAi S H w x v->aAi S H w y v
 | .nils,y,v,hy,h=>by
   simp only [bPf] at hy
   rcases hy with rfl|⟨sz,rfl⟩
   · exact h
   · simp only [aAi] at h ⊢
     subst h
     exact ⟨none,0,by simp⟩
 | .ro sz es,y,v,hy,h=>by
   simp only [bPf] at hy
   obtain ⟨es',rfl,hl⟩:=hy
   have hn:=aTo _ _ hl
   simp only [aAi] at h ⊢
   obtain ⟨A,c,e,hc,hm,h⟩:=h
   refine ⟨A,c,by rw [hn];exact e,by rw [hn];exact hc,hm,?_⟩
   rcases h with h|⟨a,ea,hs,hb,vss,hvl,hz,hcell⟩
   · left;exact List.length_eq_zero_iff.1 (by rw [hn,h];rfl)
   · exact .inr ⟨a,ea,hs,hb,vss,aTp es es' vss hl hvl,hz,hcell⟩
 | .agg cs,y,v,hy,h=>by
   simp only [bPf] at hy
   obtain ⟨cs',rfl,hl⟩:=hy
   simp only [aAi] at h ⊢
   obtain ⟨vs,e,h1,h2⟩:=h
   exact ⟨vs,e,h1,aLo cs cs' vs hl h2⟩
 | .j,y,v,hy,h| .u,y,v,hy,h| .int _ _,y,v,hy,h| .bool _,y,v,hy,h| .str _,y,v,hy,h| .nili,y,v,hy,h| .tup _,y,v,hy,h| .fr _ _ _,y,v,hy,h
 | .own _ _ _,y,v,hy,h| .ptr _ _ _,y,v,hy,h| .bptr _ _,y,v,hy,h| .map _,y,v,hy,h| .rp _,y,v,hy,h| .fn _ _,y,v,hy,h| .iface _ _,y,v,hy,h=>by
   simp only [bPf] at hy
   subst hy;exact h
theorem aLo {S:Nat->Prop}{H:Hp}{w:World}:∀(xs ys:List AV) (vs:List Value),aLg xs ys->aAt S H w xs vs->aAt S H w ys vs
 |[],ys,vs,hy,h=>by simp only [aLg] at hy;subst hy;exact h
 |x::xs,ys,vs,hy,h=>by
  simp only [aLg] at hy
  obtain ⟨y,r,rfl,h1,h2⟩:=hy
  simp only [aAt] at h ⊢
  obtain ⟨v,r',rfl,h3,h4⟩:=h
  exact ⟨v,r',rfl,bQ9 x y v h1 h3,aLo xs r r' h2 h4⟩
theorem aTp {S:Nat->Prop}{w:World}:∀(xs ys:List (List AV)) (vs:List (List Value)),aKp xs ys->aAr S w xs vs->aAr S w ys vs
 |[],ys,vs,hy,h=>by simp only [aKp] at hy;subst hy;exact h
 |x::xs,ys,vs,hy,h=>by
  simp only [aKp] at hy
  obtain ⟨y,r,rfl,h1,h2⟩:=hy
  simp only [aAr] at h ⊢
  obtain ⟨v,r',rfl,h3,h4⟩:=h
  exact ⟨v,r',rfl,aLo x y v h1 h3,aTp xs r r' h2 h4⟩
end
theorem aAc.args {P:Program}{gl:Gl}{f:FuncId}{xs ys:List AV}{R:AV->Prop}(h:aAc P gl f ys R) (ha:aLg xs ys):aAc P gl f xs R:=
 λS w vs h1 h2 h3=>h S w vs h1 h2 (aLo _ _ _ ha h3)
end Go.V
namespace Go.N
def bv (b:Nat):List Nat->Nat
 |[]=>0
 |x::l=>x+b*bv b l
theorem aHg:∀l,aA1 l=bv BB l
 |[]=>rfl
 |x::l=>by rw [aA1,bv,aHg l]
theorem aM0 (b:Nat):∀(l:List Nat) (x:Nat),bv b (l++[x])=bv b l+b ^ l.length*x
 |[],x=>by simp [bv]
 |y::l,x=>by
  simp only [List.cons_append,bv,aM0 b l x,List.length_cons,Nat.pow_succ]
  rw [Nat.mul_add,Nat.mul_comm (b ^ l.length) b,Nat.mul_assoc,Nat.add_assoc]
theorem aC3 (b:Nat){l:List Nat}{k:Nat}(hk:k<l.length):bv b (l.take (k+1))=bv b (l.take k)+b ^ k*l[k]:=by
 rw [List.take_succ_eq_append_getElem hk,aM0,List.length_take,Nat.min_eq_left (by omega)]
theorem bRc (b k:Nat):bv b (List.replicate k 0)=0:=by
 induction k with
 |zero=>rfl
 |succ k ih=>rw [List.replicate_succ,bv,ih];simp
theorem bLq (b:Nat):∀(l:List Nat) (k v:Nat) (hk:k<l.length),bv b (l.set k v)+b ^ k*l[k]=bv b l+b ^ k*v
 |[],_,_,h=>absurd h (Nat.not_lt_zero _)
 |x::l,0,v,_=>by simp [bv];omega
 |x::l,k+1,v,h=>by
  have ih:=bLq b l k v (by simpa using h)
  simp only [List.set_cons_succ,bv,List.getElem_cons_succ]
  have:=congrArg (b* ·) ih
  simp only [Nat.mul_add] at this
  rw [Nat.pow_succ,Nat.mul_comm (b ^ k) b,Nat.mul_assoc,Nat.mul_assoc]
  omega
theorem bS7 {l:List Nat}{k:Nat}(hk:k<l.length) (h:l[k]=0) (b v:Nat):bv b (l.set k v)=bv b l+b ^ k*v:=by
 have:=bLq b l k v hk
 rw [h,Nat.mul_zero,Nat.add_zero] at this
 exact this
structure Mul1 (b:Nat) (x y:List Nat) (i:Nat) (o:List Nat):Prop where
 len:o.length=x.length+y.length
 lt:∀d∈o,d<b
 val:bv b o=bv b (x.take i)*bv b y
 zero:∀j (h:j<o.length),i+y.length<=j->o[j]=0
structure Mul2 (b:Nat) (x y:List Nat) (i k:Nat) (o:List Nat) (c:Nat):Prop where
 len:o.length=x.length+y.length
 lt:∀d∈o,d<b
 cl:c<b
 val:bv b o+b ^ (i+k)*c=bv b (x.take i)*bv b y+b ^ i*(x[i]?.getD 0*bv b (y.take k))
 zero:∀j (h:j<o.length),i+y.length<=j->o[j]=0
theorem bAe {b:Nat}(hb:0<b) (x y:List Nat):Mul1 b x y 0 (List.replicate (x.length+y.length) 0):=
 ⟨by simp,λd hd=>by rw [List.eq_of_mem_replicate hd];exact hb,by simp [bRc,bv],λj h _=>by simp⟩
theorem bT8 {b:Nat}(hb:0<b){x y o:List Nat}{i:Nat}(h:Mul1 b x y i o):Mul2 b x y i 0 o 0:=
 ⟨h.len,h.lt,hb,by rw [h.val];simp [bv],h.zero⟩
theorem aUi {b:Nat}{o:List Nat}(h:∀d∈o,d<b){k v:Nat}(hv:v<b):∀d∈o.set k v,d<b:=λd hd=>by
 rcases List.mem_or_eq_of_mem_set hd with h1|h1
 · exact h d h1
 · rw [h1];exact hv
theorem bT9 {b c d p q:Nat}(hc:c<b) (hd:d<b) (hp:p<b) (hq:q<b):c+(d+p*q)<b*b:=by
 have h1:p*q<=(b - 1)*(b - 1):=Nat.mul_le_mul (by omega) (by omega)
 obtain ⟨t,rfl⟩:∃t,b=t+1:=⟨b - 1,by omega⟩
 simp only [Nat.add_sub_cancel] at h1
 have:(t+1)*(t+1)=t*t+2*t+1:=by rw [Nat.mul_add,Nat.add_mul];omega
 omega
theorem bFx {b:Nat}{x y o:List Nat}{i k c:Nat}(h:Mul2 b x y i k o c) (hi:i<x.length) (hk:k<y.length) (hx:x[i]<b) (hy:y[k]<b) (ho:i+k<o.length):
 Mul2 b x y i (k+1) (o.set (i+k) ((c+(o[i+k]+x[i]*y[k])) % b)) ((c+(o[i+k]+x[i]*y[k])) / b):=by
 have hd:=h.lt o[i+k] (List.getElem_mem ho)
 have hb:0<b:=by omega
 have hs:=bT9 h.cl hd hx hy
 refine ⟨by simp [h.len],aUi h.lt (Nat.mod_lt _ hb),Nat.div_lt_of_lt_mul hs,?_,λj hj h1=>?_⟩
 · have e:=bLq b o (i+k) ((c+(o[i+k]+x[i]*y[k])) % b) ho
   have hv:=h.val
   rw [List.getElem?_eq_getElem hi,Option.getD_some] at hv ⊢
   rw [aC3 b hk,Nat.mul_add x[i],Nat.mul_add (b ^ i),<-Nat.add_assoc (bv b (List.take i x)*bv b y),<-hv,<-Nat.add_assoc i k 1,Nat.pow_succ,Nat.mul_assoc (b ^ (i+k)) b]
   have e2:b ^ i*(x[i]*(b ^ k*y[k]))=b ^ (i+k)*(x[i]*y[k]):=by
    rw [Nat.pow_add,Nat.mul_assoc];congr 1;rw [<- Nat.mul_assoc,Nat.mul_comm x[i],Nat.mul_assoc]
   rw [e2]
   generalize x[i]*y[k]=p at e hs ⊢
   have e3:b ^ (i+k)*((c+(o[i+k]+p)) % b)+b ^ (i+k)*(b*((c+(o[i+k]+p)) / b))=b ^ (i+k)*c+(b ^ (i+k)*o[i+k]+b ^ (i+k)*p):=by
    rw [<- Nat.mul_add,Nat.mod_add_div,Nat.mul_add,Nat.mul_add]
   omega
 · rw [List.getElem_set_ne (by omega)]
   exact h.zero j (by simpa using hj) h1
theorem bNx {b:Nat}{x y o:List Nat}{i c:Nat}(h:Mul2 b x y i y.length o c) (hi:i<x.length) (ho:i+y.length<o.length):Mul1 b x y (i+1) (o.set (i+y.length) c):=by
 refine ⟨by simp [h.len],aUi h.lt h.cl,?_,λj hj h1=>?_⟩
 · have hv:=h.val
   rw [bS7 ho (h.zero _ ho (Nat.le_refl _)),hv,List.take_length,aC3 b hi,Nat.add_mul,List.getElem?_eq_getElem hi,Option.getD_some,Nat.mul_assoc (b ^ i)]
 · rw [List.getElem_set_ne (by omega)]
   exact h.zero j (by simpa using hj) (by omega)
theorem bNw {b:Nat}{x y o:List Nat}(h:Mul1 b x y x.length o):bv b o=bv b x*bv b y:=by rw [h.val,List.take_length]
theorem aHk (b:Nat){o:List Nat}{i c A B x d:Nat}(ho:o.length=i) (h:bv b o+b ^ i*c=A+B):
 bv b (o++[(c+x+d) % b])+b ^ (i+1)*((c+x+d) / b)=(A+b ^ i*x)+(B+b ^ i*d):=by
 rw [aM0,ho,Nat.pow_succ,Nat.mul_assoc (b ^ i) b]
 have e3:b ^ i*((c+x+d) % b)+b ^ i*(b*((c+x+d) / b))=b ^ i*c+b ^ i*x+b ^ i*d:=by
  rw [<- Nat.mul_add,Nat.mod_add_div,Nat.mul_add,Nat.mul_add]
 omega
theorem bAv (b:Nat){l:List Nat}{i:Nat}(h:l.length<=i):bv b (l.take (i+1))=bv b (l.take i)+b ^ i*0:=by
 rw [List.take_of_length_le (by omega),List.take_of_length_le (by omega)];simp
end Go.N
