/-
  Lemmas (part 21) for: the statement.
-/
import Derived.Test.YtphnnbfgiomaoaaGreatDoorFive3
import Derived.Test.YtphnnbfgiomaoaaGreatDoorFive7
import Derived.Test.YtphnnbfgiomaoaaGreatDoorFive16
import Derived.Test.YtphnnbfgiomaoaaGreatDoorFive18
import Derived.Test.YtphnnbfgiomaoaaGreatDoorFive20
import Derived.Shelf.Strings.OnBuilder
import Derived.Shelf.Strconv.Itoa4
import Derived.Shelf.LaysM
import Derived.Shelf.Strconv.Itoa3
import Derived.Test.YtphnnbfgiomaoaaGreatDoorProg
set_option linter.all false
namespace Go.V
open Go.N Go.Proofs
set_option maxRecDepth 20000
theorem cRq {l:List Nd}{i:Nat}:∀j,i<=j->j<=l.length->(cNs l i).2.length<=(cNs l j).2.length
 |0,h1,_=>by obtain rfl:i=0:=by omega
             exact Nat.le_refl _
 |j+1,h1,h2=>by
  rcases Nat.eq_or_lt_of_le h1 with e|e
  · subst e;exact Nat.le_refl _
  · obtain ⟨p,_,_,_,h⟩:=cVc (List.getElem?_eq_getElem (show j<l.length by omega))
    have:=cRq (l:=l) (i:=i) j (by omega) (by omega)
    omega
theorem cOa {l:List Nd}:∀i,i<=l.length->∀m y,(cNs l i).2[m]? =some y->∃j x,j<i/\l[j]? =some x/\y=reN (cNs l j).1 x/\(cNs l (j+1)).1[j]? =some ((m:Nat):Int)/\(cNs l j).2.length=m/\∀k (hk:k<(cNs l j).2.length),(cNs l j).2[k]≠y
 |0,_,m,y,h=>by simp [cNs] at h
 |i+1,hi,m,y,h=>by
  have hx:l[i]? =some l[i]:=List.getElem?_eq_getElem (by omega)
  have hlen:=(cN2 (l:=l) i (by omega)).1
  have hst:=cNx (l:=l) (i:=i) (Prod.eta _).symm hx
  have old:(cNs l i).2[m]? =some y->∃j x,j<i+1/\l[j]? =some x/\y=reN (cNs l j).1 x/\(cNs l (j+1)).1[j]? =some ((m:Nat):Int)/\(cNs l j).2.length=m/\∀k (hk:k<(cNs l j).2.length),(cNs l j).2[k]≠y:=λh=>by
   obtain ⟨j,x,h1,h2⟩:=cOa i (by omega) m y h
   exact ⟨j,x,by omega,h2⟩
  rcases cN3 (cNs l i).2 (reN (cNs l i).1 l[i]) with ⟨h1,h2,_⟩|⟨h1,h2⟩
  · rw [hst] at h
    dsimp only at h
    rw [if_neg (by omega)] at h
    exact old h
  · have h':=h
    rw [hst] at h
    dsimp only at h
    rw [if_pos h1] at h
    rcases Nat.lt_or_ge m (cNs l i).2.length with hm|hm
    · rw [List.getElem?_append_left hm] at h
      exact old h
    · have hm2:=(List.getElem?_eq_some_iff.1 h).1
      rw [List.length_append,List.length_singleton] at hm2
      obtain rfl:m=(cNs l i).2.length:=by omega
      rw [List.getElem?_append_right (Nat.le_refl _),Nat.sub_self] at h
      obtain rfl:reN (cNs l i).1 l[i]=y:=Option.some.inj h
      refine ⟨i,l[i],by omega,hx,rfl,?_,rfl,h2⟩
      rw [hst]
      dsimp only
      rw [List.getElem?_append_right (by omega),hlen,Nat.sub_self,h1];rfl
theorem cRs {l:List Nd}{k i:Nat}(hk:k<i) (hi:i<=l.length):atZ (cNs l i).1 (k:Nat)=atZ (cNs l l.length).1 (k:Nat):=by
 have hl:=(cN2 (l:=l) i hi).1
 have h1:(cNs l i).1[k]? =some (cNs l i).1[k]:=List.getElem?_eq_getElem (by omega)
 have h2:=cT8 h1 l.length hi (Nat.le_refl _)
 obtain ⟨h3,h4⟩:=List.getElem?_eq_some_iff.1 h2
 rw [cEs (by omega),cEs h3,h4]
theorem cTm {g:Gr}(hg:aC1 g=true){j:Nat}{x:Nd}(hx:g.nodes[j]? =some x):reN (cNs g.nodes j).1 x=reN (cNs g.nodes g.nodes.length).1 x:=
 cYn hg hx λk hk=>cRs hk (Nat.le_of_lt (List.getElem?_eq_some_iff.1 hx).1)
theorem cRr {l:List Nd}{j:Nat}{x:Nd}(hx:l[j]? =some x):∃p:Nat,atZ (cNs l l.length).1 (j:Nat)=(p:Nat)/\(cNs l l.length).2[p]? =some (reN (cNs l j).1 x)/\p<(cNs l (j+1)).2.length:=by
 have hj:=(List.getElem?_eq_some_iff.1 hx).1
 obtain ⟨p,h1,h2,h3,h4⟩:=cVc hx
 refine ⟨p,?_,cOq h3 _ (by omega) (Nat.le_refl _),(List.getElem?_eq_some_iff.1 h3).1⟩
 rw [<- cRs (show j<j+1 by omega) (by omega)]
 obtain ⟨h5,h6⟩:=List.getElem?_eq_some_iff.1 h2
 rw [cEs h5,h6]
theorem cU1 {g:Gr}(hg:aC1 g=true){m:Nat}{y:Nd}(hy:(cNs g.nodes g.nodes.length).2[m]? =some y){o:Opc}(ho:y.op=o.str):(0<o.many->∃v:Nat,y.a=(v:Nat)/\v<m)/\(1<o.many->∃v:Nat,y.b=(v:Nat)/\v<m):=by
 obtain ⟨j,x,hj,hx,rfl,h1,h2,_⟩:=cOa _ (Nat.le_refl _) m y hy
 rw [(cEq _ x).1] at ho
 obtain ⟨o',ho',F⟩:=aIo hg hx
 obtain rfl:=aRt (ho.symm.trans ho')
 rw [cTm hg hx]
 obtain ⟨ra,rb,_,_⟩:=cH2 (pl:=(cNs g.nodes g.nodes.length).1) ho
 have key:∀p:Int,inR p (g.nodes.take j)=true->∃v:Nat,atZ (cNs g.nodes g.nodes.length).1 p=(v:Nat)/\v<m:=λp hp=>by
  obtain ⟨k,rfl,hk1,hk2⟩:=aDq hp
  obtain ⟨v,e1,e2,e3⟩:=cRr (List.getElem?_eq_getElem hk2)
  have:=cRq (l:=g.nodes) (i:=k+1) j (by omega) (by omega)
  exact ⟨v,e1,by omega⟩
 refine ⟨λh=>?_,λh=>?_⟩
 · rw [(ra h).1];exact key _ (F.ia h)
 · rw [(rb h).1];exact key _ (F.ib h)
theorem cOz {g:Gr}(hg:aC1 g=true):Emb g.nodes (cNs g.nodes g.nodes.length).2 (cNs g.nodes g.nodes.length).1 (λ_=>true) where
 at_:=λj x hx _=>by
  obtain ⟨p,h1,h2,_⟩:=cRr hx
  rw [cTm hg hx] at h2
  exact ⟨p,h1,h2⟩
 lt:=λj x hx _ k hk=>by
  refine ⟨rfl,λm mk h1 h2=>?_⟩
  obtain ⟨p,e1,e2,_⟩:=cRr hx
  rw [cTm hg hx] at e2
  obtain rfl:p=m:=by omega
  obtain ⟨o,ho,F⟩:=aIo hg hx
  obtain ⟨ra,rb,_,_⟩:=cH2 (pl:=(cNs g.nodes g.nodes.length).1) ho
  obtain ⟨ha,hb⟩:=cU1 hg e2 (o:=o) (by rw [(cEq _ x).1];exact ho)
  have hop:aBh x.op=some o.many:=by rw [ho,aFw]
  have h3:o.many=0\/o.many=1\/o.many=2:=by have:=aNi hop;omega
  rcases h3 with h|h|h
  · rw [h] at hop;rw [dP0 hop] at hk;simp at hk
  · have hop':=hop
    rw [h] at hop'
    rw [dP1 hop',List.mem_singleton] at hk
    obtain ⟨v,e3,e4⟩:=ha (by omega)
    rw [(ra (by omega)).1,<-hk,h2] at e3
    omega
  · have hop':=hop
    rw [h] at hop'
    rw [dP2 hop',List.mem_cons,List.mem_singleton] at hk
    rcases hk with hk|hk
    · obtain ⟨v,e3,e4⟩:=ha (by omega)
      rw [(ra (by omega)).1,<-hk,h2] at e3
      omega
    · obtain ⟨v,e3,e4⟩:=hb (by omega)
      rw [(rb (by omega)).1,<-hk,h2] at e3
      omega
 onto:=λm hm=>by
  obtain ⟨j,x,hj,hx,hyx,h1,h2,_⟩:=cOa _ (Nat.le_refl _) m _ (List.getElem?_eq_getElem hm)
  refine ⟨j,hj,rfl,?_⟩
  rw [<- cRs (show j<j+1 by omega) (by omega)]
  obtain ⟨h5,h6⟩:=List.getElem?_eq_some_iff.1 h1
  rw [cEs h5,h6]
theorem cOo {l:List Nd}(n:Nat):cO7 (cNs l l.length).2 n:=λi hi k hk _=>by
 obtain ⟨j,x,hj,hx,hyx,h1,h2,h3⟩:=cOa _ (Nat.le_refl _) i _ (List.getElem?_eq_getElem hi)
 have hk2:k<(cNs l j).2.length:=by omega
 have h4:=cOq (List.getElem?_eq_getElem hk2) l.length (by omega) (Nat.le_refl _)
 obtain ⟨h5,h6⟩:=List.getElem?_eq_some_iff.1 h4
 rw [h6]
 exact λe=>h3 k hk2 e.symm
theorem cU0 {g:Gr}(hok:aC1 (cNv g).1=true):cNv (cNv g).1=((cNv g).1,cG3 (cNv g).1.nodes.length):=by
 have h:=cT7 hok (cNv g).1.nodes.length (Nat.le_refl _) (cOo _)
 obtain ⟨_,_,q,hq,hql⟩:=aMd hok
 rw [cNv,h,List.take_length]
 dsimp only
 rw [hq,cFa hql,<-hq]
theorem cTl {g:Gr}(hg:aC1 g=true):aC1 (cNv g).1=true:=cHz (cOz hg) hg (cN2 _ (Nat.le_refl _)).2 λ_ _=>rfl
end Go.V
namespace Go.V
open Go.N Go.Proofs
set_option maxRecDepth 20000
theorem cTo {a b:List UInt8}(ha:NoSp a) (hb:NoSp b):NoSp (a++b):=λh=>(List.mem_append.1 h).elim ha hb
theorem cWw (n:Nat):NoSp (dec n):=λh=>by have:=cO6 h;simp at this
theorem cRt (n:Nat):NoSp (aAx n).toList:=by rw [aAu];exact cWw n
theorem cVp:NoSp aAo.toList:=by rw [cVo];unfold NoSp;decide
theorem cWc (p:ByteArray) (n:Nat):NoSp (aL4 p n).toList:=by
 unfold aL4
 split
 · rw [aJz];exact cTo cVp (cRt _)
 · exact cRt _
theorem cWd (p:ByteArray) (n:Nat):NoSp (aL6 p n).toList:=by unfold aL6;exact cRt _
theorem cVq (p q:ByteArray) (hp:NoSp p.toList) (hq:NoSp q.toList):NoSp (aIg p q).toList:=by
 unfold aIg
 split
 · exact hp
 · simp only [aJz]
   refine cTo (cTo hp ?_) hq
   rw [ByteArray.toList_eq];unfold NoSp;decide
theorem cVd {s:ByteArray}(h:aBa s=true):NoSp s.toList:=by
 simp only [aBa,Bool.and_eq_true,decide_eq_true_eq] at h
 rw [<- h.2]
 exact cVq _ _ (cWc _ _) (cWd _ _)
theorem cS8:NoSp (⟨#[]⟩:ByteArray).toList:=by rw [ByteArray.toList_eq];unfold NoSp;decide
theorem cWe {s:ByteArray}(h:aGy s=true):NoSp s.toList:=λhm=>by
 simp only [aGy,Bool.and_eq_true,List.all_eq_true] at h
 have:=h.1.2 _ hm
 exact absurd this (by decide)
theorem cXc (o:Opc):NoSp o.str.toList:=by
 rw [ByteArray.toList_eq];unfold NoSp;cases o<;>decide
theorem cW2 {r:List Int×Bool}{s:List Int}(h:okZ r=some s):r.2=true:=by
 rw [okZ] at h
 by_cases hh:(r.2 && aAl r.1)=true
 · rw [Bool.and_eq_true] at hh;exact hh.1
 · rw [if_neg hh] at h;cases h
theorem cXd {g:Gr}(hg:aC1 g=true){i:Nat}{x:Nd}(hx:g.nodes[i]? =some x):x.NoSp:=by
 obtain ⟨m,hop,F⟩:=cGn hg hx
 have hin:=aOt hg hx
 rw [aEo hop ((aI7 _ _ _).2 F)] at hin
 have hz:=cW2 hin
 have hn:NoSp x.name.toList:=by
  cases hnm:aA7 x.op
  · rw [F.nn hnm];exact cS8
  · exact cWe (F.nm hnm)
 rcases aMe x.op with ⟨o,ho⟩|hnone
 · refine ⟨by rw [ho];exact cXc o,hn,?_,?_⟩
   · by_cases hs:x.op=aB4
     · have e:(ofZ x (if m=0 then [] else aBv (g.nodes.take i) x.a) (if m<2 then [] else aBv (g.nodes.take i) x.b)).2=aBa x.k:=by
        obtain ⟨op,a,b,name,shape,k,n,data⟩:=x
        dsimp only at hs;subst hs;rfl
       rw [e] at hz
       exact cVd hz
     · rw [F.k hs];exact cS8
   · intro s hsd
     by_cases hs:x.op=aA0
     · have e:(ofZ x (if m=0 then [] else aBv (g.nodes.take i) x.a) (if m<2 then [] else aBv (g.nodes.take i) x.b)).2=(decide ((x.data.length:Int)=aDj x.shape) && !(x.data.any λd=> !aBa d)):=by
        obtain ⟨op,a,b,name,shape,k,n,data⟩:=x
        dsimp only at hs;subst hs;rfl
       rw [e] at hz
       simp only [Bool.and_eq_true,Bool.not_eq_true',List.any_eq_false] at hz
       have:=hz.2 s hsd
       refine cVd ?_
       simpa using this
     · have:=F.d hs
       rw [List.length_eq_zero_iff.1 this] at hsd;cases hsd
 · rw [hnone] at hop;cases hop
theorem cXg {x:Nd}{pl:List Int}(h:x.NoSp):(reN pl x).NoSp:=by
 unfold reN
 split
 · exact ⟨h.op,h.name,h.k,h.data⟩
 · exact ⟨h.op,h.name,h.k,h.data⟩
 · exact h
end Go.V
namespace Go.V
open Go.N Go.RowKit
theorem cUf {P:Program}{gl:Gl}{f:FuncId}{fn:Func}{c:Code}{args:List AV}{s:ByteArray}(hf:P.funcs[f]? =some fn) (hb:fn.body=some c) (hname:(fn.name == "runtime.NumGoroutine")=false)
 (h:∀(S:Nat->Prop) (w:World) (vs:List Value),(∀ b,S b->b<w.heap.size)->bJk S w gl->aAt S H0 w args vs->Calls P f vs.toArray w λe w'=>e= .returned (.string s)/\Below w.heap.size w w'):
 aAc P gl f args (λx=>x= .str s):=by
 intro S w vs h1 h2 h3
 have hne:fn.name≠ "runtime.NumGoroutine" :=by simpa using hname
 refine .inl ⟨by simp [callFunc,hf,hne,hb],(h S w vs h1 h2 h3).mono λe w' he=>?_⟩
 obtain ⟨rfl,hB⟩:=he
 exact ⟨_,rfl,_,rfl,⟨λ_=>False,[],by simp [aDw,aAi],by simp,by simp,λb hb=>hb.elim⟩,hB⟩
theorem cX0 {P:Program}{ρ:Go.Shelf.Ren}{gl:Gl}{fn:Func}{c:Code}(L:Go.Proofs.Lays.n156 P ρ) (X:Go.Proofs.Builder.Extra P ρ) (hf:P.funcs[ρ.f 156]? =some fn) (hb:fn.body=some c) (hname:(fn.name == "runtime.NumGoroutine")=false)
 (xs:List ByteArray) (sep:ByteArray) (hN:xs.length<=140737488355328) (hlen:(Lib.join (xs.map (·.data.toList)) sep.data.toList).length<=140737488355328):
 aAc P gl (ρ.f 156) [.ro 1 (aCm xs),.str sep] (λx=>x= .str ⟨(Lib.join (xs.map (·.data.toList)) sep.data.toList).toArray⟩):=by
 refine cUf hf hb hname λS w vs h1 h2 h3=>?_
 simp only [aAt,aAi] at h3
 obtain ⟨v0,r,rfl,⟨A,cap,rfl,hc1,hc2,hA⟩,v1,r1,rfl,rfl,rfl⟩:=h3
 rw [rowS_length] at hc1 ⊢
 rcases hA with hA|⟨a,rfl,hs,hb2,vss,hl,hz,hcell⟩
 · have hx:xs=[]:=by cases xs;rfl;simp [aCm] at hA
   subst hx
   refine (Go.Proofs.Any.strings_Join_none L X A cap sep w).mono λe w' he=>?_
   exact ⟨he.1,he.2 ▸ Below.refl _ _⟩
 · cases xs with
   |nil=>
    refine (Go.Proofs.Any.strings_Join_none L X (some a) cap sep w).mono λe w' he=>?_
    exact ⟨he.1,he.2 ▸ Below.refl _ _⟩
   |cons x xs=>
    have key:∀(ys:List ByteArray) (vss:List (List Value)),aAr S w (aCm ys) vss->∀(j:Nat) z,ys[j]? =some z->vss[j]? =some [.string z]:=by
     intro ys
     induction ys with
     |nil=>intro vss _ j z h;simp at h
     |cons y ys ih=>
      intro vss hl j z hj
      simp only [aCm,List.map_cons,aAr,aAt,aAi] at hl
      obtain ⟨v,r,rfl,⟨u,r2,rfl,rfl,rfl⟩,hl⟩:=hl
      rcases j with _|j
      · simp at hj;subst hj;rfl
      · exact ih r hl j z (by simpa using hj)
    have hcs:∀(j:Nat) z,(x::xs)[j]? =some z->w.cell? (a.add j)=some (.string z):=λj z hj=>by
     have:=hcell j _ (key _ _ hl j z hj) 0 _ rfl
     simpa using this
    obtain ⟨bk,o,spot⟩:=a
    have hsp:spot=none:=by
     have h0:=hcs 0 x rfl
     have h0:w.cell? ⟨bk,o,spot⟩=some (.string x):=by simpa [Addr.add] using h0
     unfold World.cell? at h0
     split at h0
     · split at h0
       · cases h0
       · rename_i hns;cases spot with
         |none=>rfl
         |some q=>simp at hns
     · cases h0
    subst hsp
    exact Go.Proofs.Any.strings_Join L X bk o cap (x::xs) sep w (λj z hj=>by
     have:=hcs j z hj
     rcases j with _|j
     · simpa [Addr.add] using this
     · simpa [Addr.add] using this) hb2 hN hc1 hlen
end Go.V
namespace Go.Proofs
open Go.Shelf
def Tryz.lays156_ren:Go.Shelf.Ren:=⟨fun|156=>118|165=>169|166=>170|169=>171|240=>210|241=>211|276=>251|277=>252|n=>n,fun|31=>32|9=>9|3=>3|4=>4|0=>0|20=>20|72=>204|76=>206|70=>202|37=>143|75=>148|127=>240|164=>259|5=>5|80=>190|n=>n,fun|n=>n⟩
theorem Tryz.lays156:Go.Proofs.Lays.n156 Tryz.prog Tryz.lays156_ren:={
 mixed:=by kernel_rfl
 f156:=Tryz.func118.trans (congrArg some (by kernel_rfl))
 f165:=Tryz.func169.trans (congrArg some (by kernel_rfl))
 f166:=Tryz.func170.trans (congrArg some (by kernel_rfl))
 f169:=Tryz.func171.trans (congrArg some (by kernel_rfl))
 f240:=Tryz.func210.trans (congrArg some (by kernel_rfl))
 f241:=Tryz.func211.trans (congrArg some (by kernel_rfl))
 f276:=Tryz.func251.trans (congrArg some (by kernel_rfl))
 f277:=Tryz.func252.trans (congrArg some (by kernel_rfl))
 t0:=Tryz.underlying0
 a0:=Tryz.isAgg0
 z0:=Tryz.sizeOf0
 v0:=Tryz.zeroValue0
 t3:=Tryz.underlying3
 a3:=Tryz.isAgg3
 z3:=Tryz.sizeOf3
 v3:=Tryz.zeroValue3
 t4:=Tryz.underlying4
 a4:=Tryz.isAgg4
 z4:=Tryz.sizeOf4
 v4:=Tryz.zeroValue4
 t9:=Tryz.underlying9
 a9:=Tryz.isAgg9
 z9:=Tryz.sizeOf9
 v9:=Tryz.zeroValue9
 t20:=Tryz.underlying20
 a20:=Tryz.isAgg20
 z20:=Tryz.sizeOf20
 v20:=Tryz.zeroValue20
 t31:=Tryz.underlying32
 a31:=Tryz.isAgg32
 z31:=Tryz.sizeOf32
 v31:=Tryz.zeroValue32
 t37:=Tryz.underlying143
 a37:=Tryz.isAgg143
 z37:=Tryz.sizeOf143
 v37:=Tryz.zeroValue143
 t70:=Tryz.underlying202
 a70:=Tryz.isAgg202
 z70:=Tryz.sizeOf202
 v70:=Tryz.zeroValue202
 t72:=Tryz.underlying204
 a72:=Tryz.isAgg204
 z72:=Tryz.sizeOf204
 v72:=Tryz.zeroValue204
 t75:=Tryz.underlying148
 a75:=Tryz.isAgg148
 z75:=Tryz.sizeOf148
 v75:=Tryz.zeroValue148
 t76:=Tryz.underlying206
 a76:=Tryz.isAgg206
 z76:=Tryz.sizeOf206
 v76:=Tryz.zeroValue206
 t127:=Tryz.underlying240
 a127:=Tryz.isAgg240
 z127:=Tryz.sizeOf240
 v127:=Tryz.zeroValue240
 t164:=Tryz.underlying259
 a164:=Tryz.isAgg259
 z164:=Tryz.sizeOf259
 v164:=Tryz.zeroValue259}
theorem Tryz.Builder_Extra_156:Builder.Extra Tryz.prog Tryz.lays156_ren:={
 sizeBuilder:=by kernel_rfl
 liesBuilder:=by kernel_rfl
 t5:=Tryz.underlying5
 a5:=Tryz.isAgg5
 z5:=Tryz.sizeOf5
 v5:=Tryz.zeroValue5
 infoByte:=by kernel_rfl
 cellsByte:=by kernel_rfl
 sizeByte:=by kernel_rfl
 neB5:=by decide}
open Go.RowKit in
theorem Tryz.strings_Join_none (a:Option Addr) (c:Nat) (sep:ByteArray) (w:World):
 Calls Tryz.prog 118 #[.slice a 0 c,.string sep] w λe w'=>e= .returned (.string ⟨#[]⟩)/\w'=w:=Any.strings_Join_none Tryz.lays156 Tryz.Builder_Extra_156 a c sep w
open Go.RowKit in
theorem Tryz.strings_Join (bk o c:Nat) (xs:List ByteArray) (sep:ByteArray) (w:World) (hcells:∀(j:Nat) x,xs[j]? =some x->w.cell? ⟨bk,o+j,none⟩=some (.string x)) (hbk:bk<w.heap.size) (hN:xs.length<=140737488355328) (hcap:xs.length<=c) (hlen:(Lib.join (xs.map (·.data.toList)) sep.data.toList).length<=140737488355328):
 Calls Tryz.prog 118 #[.slice (some ⟨bk,o,none⟩) xs.length c,.string sep] w λe w'=>e= .returned (.string ⟨(Lib.join (xs.map (·.data.toList)) sep.data.toList).toArray⟩)/\Below w.heap.size w w':=Any.strings_Join Tryz.lays156 Tryz.Builder_Extra_156 bk o c xs sep w hcells hbk hN hcap hlen
def Tryz.laysM171_ren:Go.Shelf.Ren:=⟨fun|171=>117|243=>168|246=>209|283=>247|284=>248|285=>249|286=>250|129=>270|317=>269|318=>271|319=>272|320=>273|337=>283|338=>284|n=>n,fun|3=>3|9=>9|2=>2|4=>4|171=>278|0=>0|53=>170|37=>143|5=>5|173=>281|212=>311|51=>167|20=>20|213=>312|46=>113|232=>321|233=>322|n=>n,fun|17=>4|18=>7|19=>8|n=>n⟩
theorem Tryz.laysM171:Go.Proofs.LaysM.n171 Tryz.prog Tryz.laysM171_ren:={
 mixed:=by kernel_rfl
 f129:=Tryz.func270.trans (congrArg some (by kernel_rfl))
 f171:=Tryz.func117.trans (congrArg some (by kernel_rfl))
 f243:=Tryz.func168.trans (congrArg some (by kernel_rfl))
 f246:=Tryz.func209.trans (congrArg some (by kernel_rfl))
 f283:=Tryz.func247.trans (congrArg some (by kernel_rfl))
 f284:=Tryz.func248.trans (congrArg some (by kernel_rfl))
 f285:=Tryz.func249.trans (congrArg some (by kernel_rfl))
 f286:=Tryz.func250.trans (congrArg some (by kernel_rfl))
 f317:=Tryz.func269.trans (congrArg some (by kernel_rfl))
 f318:=Tryz.func271.trans (congrArg some (by kernel_rfl))
 f319:=Tryz.func272.trans (congrArg some (by kernel_rfl))
 f320:=Tryz.func273.trans (congrArg some (by kernel_rfl))
 f337:=Tryz.func283.trans (congrArg some (by kernel_rfl))
 f338:=Tryz.func284.trans (congrArg some (by kernel_rfl))
 t0:=Tryz.underlying0
 a0:=Tryz.isAgg0
 z0:=Tryz.sizeOf0
 v0:=Tryz.zeroValue0
 t2:=Tryz.underlying2
 a2:=Tryz.isAgg2
 z2:=Tryz.sizeOf2
 v2:=Tryz.zeroValue2
 t3:=Tryz.underlying3
 a3:=Tryz.isAgg3
 z3:=Tryz.sizeOf3
 v3:=Tryz.zeroValue3
 t4:=Tryz.underlying4
 a4:=Tryz.isAgg4
 z4:=Tryz.sizeOf4
 v4:=Tryz.zeroValue4
 t5:=Tryz.underlying5
 a5:=Tryz.isAgg5
 z5:=Tryz.sizeOf5
 v5:=Tryz.zeroValue5
 t9:=Tryz.underlying9
 a9:=Tryz.isAgg9
 z9:=Tryz.sizeOf9
 v9:=Tryz.zeroValue9
 t20:=Tryz.underlying20
 a20:=Tryz.isAgg20
 z20:=Tryz.sizeOf20
 v20:=Tryz.zeroValue20
 t37:=Tryz.underlying143
 a37:=Tryz.isAgg143
 z37:=Tryz.sizeOf143
 v37:=Tryz.zeroValue143
 t46:=Tryz.underlying113
 a46:=Tryz.isAgg113
 z46:=Tryz.sizeOf113
 v46:=Tryz.zeroValue113
 t51:=Tryz.underlying167
 a51:=Tryz.isAgg167
 z51:=Tryz.sizeOf167
 v51:=Tryz.zeroValue167
 t53:=Tryz.underlying170
 a53:=Tryz.isAgg170
 z53:=Tryz.sizeOf170
 v53:=Tryz.zeroValue170
 t171:=Tryz.underlying278
 a171:=Tryz.isAgg278
 z171:=Tryz.sizeOf278
 v171:=Tryz.zeroValue278
 t173:=Tryz.underlying281
 a173:=Tryz.isAgg281
 z173:=Tryz.sizeOf281
 v173:=Tryz.zeroValue281
 t212:=Tryz.underlying311
 a212:=Tryz.isAgg311
 z212:=Tryz.sizeOf311
 v212:=Tryz.zeroValue311
 t213:=Tryz.underlying312
 a213:=Tryz.isAgg312
 z213:=Tryz.sizeOf312
 t232:=Tryz.underlying321
 a232:=Tryz.isAgg321
 z232:=Tryz.sizeOf321
 v232:=Tryz.zeroValue321
 t233:=Tryz.underlying322
 a233:=Tryz.isAgg322
 z233:=Tryz.sizeOf322
 v233:=Tryz.zeroValue322
 g17:=by kernel_rfl
 g18:=by kernel_rfl
 g19:=by kernel_rfl
 i0:=by kernel_rfl
 i2:=by kernel_rfl
 i3:=by kernel_rfl
 i4:=by kernel_rfl
 i5:=by kernel_rfl
 i9:=by kernel_rfl
 i20:=by kernel_rfl
 i37:=by kernel_rfl
 i46:=by kernel_rfl
 i51:=by kernel_rfl
 i53:=by kernel_rfl
 i171:=by kernel_rfl
 i173:=by kernel_rfl
 i212:=by kernel_rfl
 i232:=by kernel_rfl
 i233:=by kernel_rfl
 m17:=by kernel_rfl
 m18:=by kernel_rfl
 m19:=by kernel_rfl}
open Go.RowKit Go.Sort Go.Lib in
theorem Tryz.strconv_Itoa (n:Int) (h0: -9223372036854775808<=n) (h1:n<=9223372036854775807) (w:World) (htab:Lib.TabIs Tryz.prog w "internal/strconv.uint64pow10" .u64 Lib.pow10Tab):
 Calls Tryz.prog 117 #[.int .i64 n] w λe w'=>e= .returned (.string ⟨(Lib.itoa n).toArray⟩)/\∃k os,w'=grow (w.drewN k) os:=Any.strconv_Itoa Tryz.laysM171 n h0 h1 w htab
end Go.Proofs
namespace Go.V
open Go.N Go.RowKit
theorem cVe {S:Nat->Prop}{w:World}:∀(zs:List Int) (vs:List Value),aAt S H0 w (zs.map λz=>AV.int .u64 z) vs->vs=zs.map λz=>Value.int .u64 z
 |[],vs,h=>by simpa [aAt] using h
 |z::zs,vs,h=>by
  simp only [List.map_cons,aAt,aAi] at h
  obtain ⟨v,r,rfl,rfl,h⟩:=h
  rw [cVe zs r h];rfl
theorem cXz {P:Program}{S:Nat->Prop}{w:World}{g:Nat}{nm:String}{zs:List Int}(hn:P.globalNamed nm=some g)
 (h:aAi S H0 w (.rp (zs.map λz=>AV.int .u64 z)) (.pointer (some ⟨g,0,none⟩))/\∃c e f,w.heap[g]? =some (.cells c e f)/\c.size=(zs.map λz=>AV.int .u64 z).length):Lib.TabIs P w nm .u64 zs:=by
 obtain ⟨hr,c,e,f,hh,hc⟩:=h
 simp only [aAi] at hr
 obtain ⟨a,ha,_,_,vs,hl,_,hcell⟩:=hr
 obtain rfl:(⟨g,0,none⟩:Addr)=a:=by simpa using ha
 have hv:=cVe zs vs hl
 subst hv
 unfold Lib.TabIs World.var?
 rw [hn]
 simp only [Option.bind_some,hh]
 congr 1
 apply Array.toList_inj.1
 apply List.ext_getElem?
 intro k
 rw [Array.getElem?_toList]
 rcases Nat.lt_or_ge k zs.length with hk|hk
 · have h1:=hcell k (.int .u64 zs[k]) (by rw [List.getElem?_map,List.getElem?_eq_getElem hk];rfl)
   rw [show Addr.add ⟨g,0,none⟩ k=⟨g,k,none⟩ by rcases k with _|k<;>simp [Addr.add]] at h1
   rw [List.getElem?_map,List.getElem?_eq_getElem hk]
   unfold World.cell? at h1
   simpa [hh] using h1
 · rw [List.getElem?_map,List.getElem?_eq_none hk,Array.getElem?_eq_none (by rw [hc];simpa using hk)];rfl
theorem cXn (n:Int) (h0: -9223372036854775808<=n) (h1:n<=9223372036854775807):aAc Go.Proofs.Tryz.prog GL 117 [.int .i64 n] (λx=>x= .str ⟨(Lib.itoa n).toArray⟩):=by
 refine cUf Go.Proofs.Tryz.func117 rfl (by decide +kernel) λS w vs _ h2 h3=>?_
 simp only [aAt,aAi] at h3
 obtain ⟨v,r,rfl,rfl,rfl⟩:=h3
 have ht:=cXz (P:=Go.Proofs.Tryz.prog) (nm:= "internal/strconv.uint64pow10") (by kernel_rfl) (h2 4 cW3 (by simp [GL]))
 refine (Go.Proofs.Tryz.strconv_Itoa n h0 h1 w ht).mono λe w' ⟨he,k,os,hw⟩=>⟨he,hw ▸ ?_⟩
 refine ⟨rfl,rfl,rfl,?_,λi hi=>?_⟩
 · simp [Go.Sort.grow,World.drewN]
 · simp [Go.Sort.grow,World.drewN,Array.getElem?_append,hi]
theorem cXo (xs:List ByteArray) (sep:ByteArray) (hN:xs.length<=140737488355328) (hlen:(Lib.join (xs.map (·.data.toList)) sep.data.toList).length<=140737488355328):
 aAc Go.Proofs.Tryz.prog GL 118 [.ro 1 (aCm xs),.str sep] (λx=>x= .str ⟨(Lib.join (xs.map (·.data.toList)) sep.data.toList).toArray⟩):=
 cX0 Go.Proofs.Tryz.lays156 Go.Proofs.Tryz.Builder_Extra_156 Go.Proofs.Tryz.func118 rfl (by decide +kernel) xs sep hN hlen
end Go.V
namespace Go.V
open Go.N Go.Proofs
set_option maxRecDepth 20000
def bQf:Tab:=[(32,i32),(9,i9),(3,i3)]
theorem aTl:TOK Tryz.prog bQf:=⟨K32,⟨K9,⟨K3,trivial⟩⟩⟩
def bB7:Tab:=[(32,i32),(9,i9),(3,i3)]
theorem aLh:TOK Tryz.prog bB7:=⟨K32,⟨K9,⟨K3,trivial⟩⟩⟩
def cXm:Tab:=[(32,i32),(9,i9)]
theorem cWo:TOK Tryz.prog cXm:=⟨K32,⟨K9,trivial⟩⟩
def cXl:Tab:=[(34,i34),(9,i9),(3,i3),(32,i32),(27,i27)]
theorem cWn:TOK Tryz.prog cXl:=⟨K34,⟨K9,⟨K3,⟨K32,⟨K27,trivial⟩⟩⟩⟩⟩
theorem bEx (gl:Gl) (l:List ByteArray) (s:ByteArray) (hll:l.length<9000000000):
 aAc Tryz.prog gl 167 [.ro 1 (aCm l),.str s] (λx=>∃k:Int,x= .int .i64 k/\(0<=k↔aIb s l=true)):=by
 refine vgo aTl Tryz.func167 ?_
 have hl:(aCm l).length=l.length:=rowS_length l
 repeat' first|refine sV ⟨?_⟩|refine sq (λh=>⟨?_⟩) λh=>⟨?_⟩|fail
 refine ⟨[0,1,7,8],[],λm st=>∃i:Nat,i<=l.length/\m=l.length - i/\aIb s (l.take i)=false/\
  st=⟨[(0,.ro 1 (aCm l)),(1,.str s),(7,.int .i64 ((aCm l).length:Nat)),(8,.int .i64 (i:Nat))],[]⟩,rfl,⟨l.length,0,by omega,rfl,by simp [aIb],rfl⟩,?_⟩
 rintro m _ ⟨i,hi,hm,ha,rfl⟩
 rcases Nat.lt_or_ge i l.length with hil|hge
 · have g:=aCd hil
   by_cases e:s=l[i]
   · repeat' first|refine sV ⟨?_⟩|refine sq (λh=>⟨?_⟩) λh=>⟨?_⟩|fail
     all_goals try omega
     conv=>whnf
     exact ⟨i,rfl,by rw [show aIb s l=true from bCv hil (decide_eq_true e)];simp⟩
   · repeat' first|refine sV ⟨?_⟩|refine sq (λh=>⟨?_⟩) λh=>⟨?_⟩|fail
     all_goals try omega
     exact ⟨[],l.length - (i+1),rfl,by omega,i+1,by omega,rfl,aVj hil ha (decide_eq_false e),rfl⟩
 · repeat' first|refine sV ⟨?_⟩|refine sq (λh=>⟨?_⟩) λh=>⟨?_⟩|fail
   all_goals try omega
   conv=>whnf
   rw [List.take_of_length_le (by omega)] at ha
   exact ⟨-1,rfl,by rw [ha];simp⟩
theorem bCx (gl:Gl) (l:List ByteArray) (s:ByteArray) (hll:l.length<9000000000):
 aAc Tryz.prog gl 116 [.ro 1 (aCm l),.str s] (λx=>x= .bool (aIb s l)):=by
 refine vgo aLh Tryz.func116 ?_
 repeat' first|refine sX ⟨?_⟩|(refine sp ?_ ?_<;>refine λh=>⟨?_⟩)|fail
 conv=>whnf
 refine .inl ⟨_,bEx gl l s hll,?_⟩
 rintro _ ⟨k,rfl,hk⟩
 have e:aIb s l=decide (0<=k):=by rw [Bool.eq_iff_iff,decide_eq_true_eq,hk]
 repeat' first|refine sX ⟨?_⟩|(refine sp ?_ ?_<;>refine λh=>⟨?_⟩)|fail
 conv=>whnf
 exact congrArg AV.bool e.symm
theorem cYg (gl:Gl) (op:ByteArray):aAc Tryz.prog gl 62 [.str op] (λx=>x= .bool (aIb op bBb)):=by
 have hc:aAc Tryz.prog gl 116 [.ro 1 (List.take 6 (List.drop 0 (aCm bBb))),.str op] (λx=>x= .bool (aIb op bBb)):=bCx gl bBb op (by decide)
 refine vgo cWo Tryz.func62 ?_
 repeat' first|refine sV ⟨?_⟩|refine sq (λh=>⟨?_⟩) λh=>⟨?_⟩|fail
 all_goals (conv=>whnf)
 all_goals rfl
end Go.V
namespace Go.V
open Go.N Go.Proofs
set_option maxRecDepth 20000
def cR2 (z:Int):Prop:=0<=z/\z<=1000
structure Nd.Mid (x:Nd):Prop where
 op:x.op.size<=1000
 a:cR2 x.a
 b:cR2 x.b
 n:cR2 x.n
 shape:∀d∈x.shape,cR2 d
theorem cXv {g:Gr}(hg:aC1 g=true) (hl:g.nodes.length<=1000){i:Nat}{x:Nd}(hx:g.nodes[i]? =some x):x.Mid:=by
 obtain ⟨m,hop,F⟩:=cGn hg hx
 have hm:=aNi hop
 have hp:=cE1 hg hx
 have hi:=(List.getElem?_eq_some_iff.1 hx).1
 have hin:=aOt hg hx
 rw [aEo hop ((aI7 _ _ _).2 F)] at hin
 have hz:=cW2 hin
 have hsh:aAl x.shape=true:=cAn hin
 refine ⟨?_,?_,?_,?_,λd hd=>?_⟩
 · rcases aMe x.op with ⟨o,ho⟩|hnone
   · rw [ho];cases o<;>decide
   · rw [hnone] at hop;cases hop
 · have h3:m=0\/m=1\/m=2:=by omega
   rcases h3 with rfl|rfl|rfl
   · rw [F.a0 rfl];exact ⟨by decide,by decide⟩
   · rw [dP1 hop] at hp
     obtain ⟨k,hk,hki⟩:=hp x.a (by simp)
     rw [hk];exact ⟨by omega,by omega⟩
   · rw [dP2 hop] at hp
     obtain ⟨k,hk,hki⟩:=hp x.a (by simp)
     rw [hk];exact ⟨by omega,by omega⟩
 · rcases Nat.lt_or_ge m 2 with h2|h2
   · rw [F.b0 h2];exact ⟨by decide,by decide⟩
   · obtain rfl:m=2:=by omega
     rw [dP2 hop] at hp
     obtain ⟨k,hk,hki⟩:=hp x.b (by simp)
     rw [hk];exact ⟨by omega,by omega⟩
 · by_cases hs:x.op=aCn
   · have e:(ofZ x (if m=0 then [] else aBv (g.nodes.take i) x.a) (if m<2 then [] else aBv (g.nodes.take i) x.b)).2=(decide (0<=x.n) && decide (x.n<=6)):=by
      obtain ⟨op,a,b,name,shape,k,n,data⟩:=x
      dsimp only at hs;subst hs;rfl
     rw [e] at hz
     simp only [Bool.and_eq_true,decide_eq_true_eq] at hz
     exact ⟨hz.1,by omega⟩
   · rw [F.n hs];exact ⟨by decide,by decide⟩
 · have h1:=aCs hsh d hd
   exact ⟨by omega,by omega⟩
theorem cUo {pl:List Int}(h:∀v∈pl,cR2 v) (a:Int):cR2 (atZ pl a):=by
 unfold atZ
 rw [List.getD_eq_getElem?_getD]
 rcases Nat.lt_or_ge a.toNat pl.length with hh|hh
 · rw [List.getElem?_eq_getElem hh];exact h _ (List.getElem_mem hh)
 · rw [List.getElem?_eq_none hh];exact ⟨by decide,by decide⟩
theorem cXx {x:Nd}{pl:List Int}(h:x.Mid) (hp:∀v∈pl,cR2 v):(reN pl x).Mid:=by
 unfold reN
 split
 · exact ⟨h.op,cUo hp _,h.b,h.n,h.shape⟩
 · exact ⟨h.op,cUo hp _,cUo hp _,h.n,h.shape⟩
 · exact h
theorem cXp (n:Nat):(dec n).length<=n+1:=by
 induction n using Nat.strongRecOn with
 |_ n ih=>
  rw [dec]
  split
  · simp
  · have:=ih (n / 10) (by omega)
    simp only [List.length_append,List.length_singleton]
    omega
theorem cPz {z:Int}(h:cR2 z):(cN9 z).length<=1001:=by
 obtain ⟨h1,h2⟩:=h
 unfold cN9
 rw [if_neg (by omega)]
 have:=cXp z.toNat
 omega
theorem cV5 (k:Nat):∀(ts:List (List UInt8)),(∀ t∈ts,t.length<=k)->Lib.lens ts<=k*ts.length
 |[],_=>by simp [Lib.lens]
 |t::ts,h=>by
  have h1:=h t List.mem_cons_self
  have h2:=cV5 k ts (λa ha=>h a (List.mem_cons_of_mem _ ha))
  simp only [Lib.lens,List.map_cons,List.sum_cons,List.length_cons,Nat.mul_add,Nat.mul_one] at h2 ⊢
  omega
theorem cXa {x:Nd}(hs:x.Sm) (hm:x.Mid):(Lib.join (cUg x) [32]).length<=140737488355328:=by
 have hl:(cUg x).length<=3000:=by
  have h1:=hs.shape
  have h2:=hs.data
  simp only [cUg,List.length_append,List.length_cons,List.length_map,List.length_nil]
  omega
 have ht:∀t∈cUg x,t.length<=1001:=λt ht=>by
  simp only [cUg,List.mem_append,List.mem_cons,List.mem_map,List.not_mem_nil,or_false] at ht
  rcases ht with ((rfl|rfl|rfl|rfl|rfl|rfl|rfl)|⟨d,hd,rfl⟩)|(rfl|⟨s,hs',rfl⟩)
  · have:=hm.op;rw [len_toList];omega
  · exact cPz hm.a
  · exact cPz hm.b
  · have:=hs.name;rw [len_toList];omega
  · have:=hs.k;rw [len_toList];omega
  · exact cPz hm.n
  · decide
  · exact cPz (hm.shape d hd)
  · decide
  · have:=hs.each s hs';rw [len_toList];omega
 have hle:=cV5 1001 _ ht
 obtain ⟨t,r,e⟩:∃t r,cUg x=t::r:=⟨_,_,rfl⟩
 rw [e] at hl hle ⊢
 rw [Lib.join_length]
 simp only [List.length_cons,List.length_nil] at hl hle ⊢
 omega
def cPd (n:Int):ByteArray:=⟨(Lib.itoa n).toArray⟩
def cWi:ByteArray:=⟨#[115,104,97,112,101]⟩
def cOi:ByteArray:=⟨#[100,97,116,97]⟩
def cVa (x:Nd) (i:Nat):List ByteArray:=[x.op,cPd x.a,cPd x.b,x.name,x.k,cPd x.n,cWi]++(x.shape.take i).map cPd
theorem cVb (x:Nd):(cVa x x.shape.length++[cOi]++x.data).map (·.data.toList)=cUg x:=by
 have hi:∀n,(cPd n).data.toList=cN9 n:=λn=>by simp [cPd,cVl]
 simp [cVa,cUg,hi,ByteArray.toList_eq,cWi,cOi,cWk,cWj,List.map_map,Function.comp_def]
theorem cV4 {x:Nd}{i:Nat}(h:i<x.shape.length):cVa x (i+1)=cVa x i++[cPd x.shape[i]]:=by
 unfold cVa
 rw [List.take_succ_eq_append_getElem h,List.map_append,<-List.append_assoc];rfl
theorem cWu (x:Nd):(⟨(Lib.join ((cVa x x.shape.length++[cOi]++x.data).map (·.data.toList)) [32]).toArray⟩:ByteArray)=cVw x:=by rw [cVb];rfl
end Go.V
namespace Go.V
open Go.N Go.Proofs
set_option maxRecDepth 20000
theorem cUa (l:List ByteArray) (x:ByteArray):aCm (l++[x])=(aCm l).take (aCm l).length++[[.str x]]:=by rw [List.take_length];simp [aCm]
theorem cWx (l r:List ByteArray):aCm (l++r)=(aCm l).take (aCm l).length++aCm r:=by rw [List.take_length];simp [aCm]
set_option maxHeartbeats 2000000 in
theorem cYf (x:Nd) (hs:x.Sm) (hm:x.Mid):aAc Tryz.prog GL 63 [.agg x.cells] (λy=>y= .str (cVw x)):=by
 have hit:∀z,cR2 z->aAc Tryz.prog GL 117 [.int .i64 z] (λx=>x= .str (cPd z)):=λz hz=>cXn z (by have:=hz.1;omega) (by have:=hz.2;omega)
 have hia:=hit x.a hm.a
 have hib:=hit x.b hm.b
 have hin:=hit x.n hm.n
 have hid:=λd hd=>hit d (hm.shape d hd)
 have hN:(cVa x x.shape.length++[cOi]++x.data).length<=140737488355328:=by
  have h1:=hs.shape
  have h2:=hs.data
  simp [cVa];omega
 have hJ:=cXo (cVa x x.shape.length++[cOi]++x.data) ⟨#[32]⟩ hN (by rw [cVb];exact cXa hs hm)
 rw [cWu] at hJ
 have hW0:aCm (cVa x 0)=[[.str x.op],[.str (cPd x.a)],[.str (cPd x.b)],[.str x.name],[.str x.k],[.str (cPd x.n)],[.str cWi]]:=by simp [cVa,aCm]
 have hWs:=λ{i:Nat} (h:i<x.shape.length)=>cV4 h
 have hWl:∀i,i<=x.shape.length->(aCm (cVa x i)).length=7+i:=λi hi=>by simp [cVa];omega
 have hsl:=hs.shape
 have hdl:=hs.data
 clear hs hm hit hN
 obtain ⟨op,a,b,name,shape,k,n,data⟩:=x
 dsimp only at*
 generalize cVa ⟨op,a,b,name,shape,k,n,data⟩=W at*
 generalize cVw ⟨op,a,b,name,shape,k,n,data⟩=K at*
 have hrl:=rowZ_length shape
 have hrd:=rowS_length data
 show aAc _ _ _ [.agg [.str op,.int .i64 a,.int .i64 b,.str name,.ro 1 (aAh shape),.str k,.int .i64 n,.ro 1 (aCm data)]] _
 refine vgo cWn Tryz.func63 ?_
 have hJ2:aAc Tryz.prog GL 118 [.ro 1 (List.take (aCm (W shape.length++[cOi]++data)).length (List.drop 0 (aCm (W shape.length++[cOi]++data)))),.str ⟨#[32]⟩] (λx=>x= .str K):=by rw [List.drop_zero,List.take_length];exact hJ
 repeat' first|refine sV ⟨?_⟩|refine sq (λh=>⟨?_⟩) λh=>⟨?_⟩|fail
 refine ⟨by decide +kernel,[0,1,0,4,12,0,32,124,0,256,0,1024,0,4096,12540,32767,65535],by decide +kernel,?_⟩
 repeat' first|refine sV ⟨?_⟩|refine sq (λh=>⟨?_⟩) λh=>⟨?_⟩|fail
 refine ⟨[1,3,23,24,25],[0,1],λm st=>∃i:Nat,i<=shape.length/\m=shape.length - i/\st=(⟨[(1,.bptr 0 0),(3,.own 1 0 (aCm (W i)).length),(23,.ro 1 (aAh shape)),(24,.int .i64 ((aAh shape).length:Nat)),(25,.int .i64 ((i:Nat):Int))],[.box 34 [.str op,.int .i64 a,.int .i64 b,.str name,.ro 1 (aAh shape),.str k,.int .i64 n,.ro 1 (aCm data)],.row false 9 1 (aCm (W i))]⟩:St),rfl,
  ⟨shape.length,0,by omega,rfl,Eq.trans rfl (congrArg (λz:List (List AV)=>(⟨[(1,.bptr 0 0),(3,.own 1 0 (z).length),(23,.ro 1 (aAh shape)),(24,.int .i64 ((aAh shape).length:Nat)),(25,.int .i64 ((0:Nat):Int))],[.box 34 [.str op,.int .i64 a,.int .i64 b,.str name,.ro 1 (aAh shape),.str k,.int .i64 n,.ro 1 (aCm data)],.row false 9 1 (z)]⟩:St)) hW0.symm)⟩,?_⟩
 rintro m _ ⟨i,hi,hm,rfl⟩
 have hwl:=hWl i hi
 rcases Nat.lt_or_ge i shape.length with hil|hge
 · have g:=aE6 hil
   have hd:=hid shape[i] (List.getElem_mem hil)
   have hws:=hWs hil
   repeat' first|refine sV ⟨?_⟩|refine sq (λh=>⟨?_⟩) λh=>⟨?_⟩|fail
   refine ⟨Nat.le_refl _,(show ((aCm (W i)).length+1)*16<=140737488355328 by omega),_,cUa (W i) (cPd shape[i]),?_⟩
   repeat' first|refine sV ⟨?_⟩|refine sq (λh=>⟨?_⟩) λh=>⟨?_⟩|fail
   exact ⟨[0,3],shape.length - (i+1),rfl,by omega,i+1,by omega,rfl,Eq.trans rfl (congrArg (λz:List (List AV)=>(⟨[(1,.bptr 0 0),(3,.own 1 0 (z).length),(23,.ro 1 (aAh shape)),(24,.int .i64 ((aAh shape).length:Nat)),(25,.int .i64 ((i+1:Nat):Int))],[.box 34 [.str op,.int .i64 a,.int .i64 b,.str name,.ro 1 (aAh shape),.str k,.int .i64 n,.ro 1 (aCm data)],.row false 9 1 (z)]⟩:St)) (congrArg aCm hws).symm)⟩
 · obtain rfl:i=shape.length:=by omega
   have hw2:(aCm (W shape.length++[cOi])).length=8+shape.length:=by simp only [rowS_length,List.length_append,List.length_singleton] at hwl ⊢;omega
   repeat' first|refine sV ⟨?_⟩|refine sq (λh=>⟨?_⟩) λh=>⟨?_⟩|fail
   refine ⟨by decide +kernel,[0,0,3,0,8,31,63,127],by decide +kernel,?_⟩
   repeat' first|refine sV ⟨?_⟩|refine sq (λh=>⟨?_⟩) λh=>⟨?_⟩|fail
   refine ⟨Nat.le_refl _,(show ((aCm (W shape.length)).length+1)*16<=140737488355328 by omega),_,cUa (W shape.length) cOi,?_⟩
   repeat' first|refine sV ⟨?_⟩|refine sq (λh=>⟨?_⟩) λh=>⟨?_⟩|fail
   refine ⟨Nat.le_refl _,(show ((aCm (W shape.length++[cOi])).length+(aCm data).length)*16<=140737488355328 by omega),_,cWx (W shape.length++[cOi]) data,?_⟩
   repeat' first|refine sV ⟨?_⟩|refine sq (λh=>⟨?_⟩) λh=>⟨?_⟩|fail
   all_goals (conv=>whnf)
   all_goals rfl
end Go.V
namespace Go.V
open Go.N Go.Proofs
set_option maxRecDepth 20000
def cX8 (kv:List (ByteArray×AV)):Prop:=∀e∈kv,∃z,e.2= .int .i64 z
theorem cN7 {kv:List (ByteArray×AV)}(keep:List Nat) (h:cX8 kv):kv.map (λkx=>(kx.1,ren keep kx.2))=kv:=by
 induction kv with
 |nil=>rfl
 |cons e r ih=>
  obtain ⟨z,hz⟩:=h e List.mem_cons_self
  obtain ⟨k,v⟩:=e
  dsimp only at hz
  subst hz
  rw [List.map_cons,ih (λa ha=>h a (List.mem_cons_of_mem _ ha))]
  simp [ren]
theorem cU8 {kv:List (ByteArray×AV)}(h:cX8 kv) (k:ByteArray) (z:Int):cX8 (aXw kv k (.int .i64 z)):=by
 induction kv with
 |nil=>intro e he;simp [aXw] at he;exact ⟨z,by rw [he]⟩
 |cons a r ih=>
  obtain ⟨k',v⟩:=a
  intro e he
  unfold aXw at he
  split at he
  · rcases List.mem_cons.1 he with rfl|he
    · exact ⟨z,rfl⟩
    · exact h e (List.mem_cons_of_mem _ he)
  · rcases List.mem_cons.1 he with rfl|he
    · exact h _ List.mem_cons_self
    · exact ih (λa ha=>h a (List.mem_cons_of_mem _ ha)) e he
theorem cVj (kv:List (ByteArray×AV)) (k:ByteArray) (v:AV):aEz (aXw kv k v) k=some v:=by
 induction kv with
 |nil=>simp [aXw,aEz]
 |cons a r ih=>
  obtain ⟨k',w⟩:=a
  unfold aXw
  by_cases e:k=k'
  · rw [if_pos e];simp [aEz]
  · rw [if_neg e];simp [aEz,e,ih]
theorem cUv {k k2:ByteArray}(hne:k2≠k) (kv:List (ByteArray×AV)) (v:AV):aEz (aXw kv k v) k2=aEz kv k2:=by
 induction kv with
 |nil=>simp [aXw,aEz,hne]
 |cons a r ih=>
  obtain ⟨k',w⟩:=a
  unfold aXw
  by_cases e:k=k'
  · rw [if_pos e];subst e;simp [aEz,hne]
  · rw [if_neg e];simp [aEz,ih]
def PlK (kv:List (ByteArray×AV)) (out:List Nd):Prop:=∀z:Nd,z.NoSp->aEz kv (cVw z)=if cNt out z<out.length then some (.int .i64 (cNt out z:Nat)) else none
theorem cWf:PlK [] []:=λz _=>by
 have:cNt [] z=0:=cNw (λj hj=>by simp at hj)
 rw [this];rfl
theorem cT2 {out:List Nd}{y z:Nd}(hne:z≠y):cNt (out++[y]) z=if cNt out z<out.length then cNt out z else out.length+1:=by
 rcases cN3 out z with ⟨h1,h2,h3⟩|⟨h1,h2⟩
 · rw [if_pos h1]
   exact cN8 (by simp;omega) (by rw [List.getElem_append_left h1];exact h2) (λj hj=>by rw [List.getElem_append_left (by omega)];exact h3 j hj)
 · rw [if_neg (by omega)]
   have:=cNw (out:=out++[y]) (y:=z) (λj hj=>by
    rcases Nat.lt_or_ge j out.length with h|h
    · rw [List.getElem_append_left h];exact h2 j h
    · rw [List.getElem_append_right h];simp;exact λe=>hne e.symm)
   rw [this];simp
theorem cUw {out:List Nd}{y:Nd}(h:cNt out y=out.length):cNt (out++[y]) y=out.length:=by
 rcases cN3 out y with ⟨h1,_,_⟩|⟨_,h2⟩
 · omega
 · exact cN8 (by simp) (by simp) (λj hj=>by rw [List.getElem_append_left hj];exact h2 j hj)
theorem cWg {kv:List (ByteArray×AV)}{out:List Nd}{y:Nd}(h:PlK kv out) (hy:y.NoSp) (hn:cNt out y=out.length):PlK (aXw kv (cVw y) (.int .i64 (out.length:Nat))) (out++[y]):=λz hz=>by
 by_cases e:z=y
 · subst e
   rw [cVj,cUw hn,if_pos (by simp)]
 · rw [cUv (λek=>e (cW9 hz hy ek)),h z hz,cT2 e]
   rcases Nat.lt_or_ge (cNt out z) out.length with hh|hh
   · rw [if_pos hh,if_pos hh,if_pos (by simp;omega)]
   · have e2:(if cNt out z<out.length then cNt out z else out.length+1)=out.length+1:=if_neg (by omega)
     rw [e2,if_neg (by omega),if_neg (by simp)]
theorem cXf {kv:List (ByteArray×AV)}{out:List Nd}{y:Nd}(h:PlK kv out) (hy:y.NoSp) (hn:cNt out y≠out.length):aEz kv (cVw y)=some (.int .i64 (cNt out y:Nat)):=by
 rw [h y hy,if_pos (by have:=cO8 out y;omega)]
theorem cXe {kv:List (ByteArray×AV)}{out:List Nd}{y:Nd}(h:PlK kv out) (hy:y.NoSp) (hn:cNt out y=out.length):aEz kv (cVw y)=none:=by
 rw [h y hy,if_neg (by omega)]
theorem cV9 {l:List Nd}(h:l.length<=1000) (i:Nat) (hi:i<=l.length):∀v∈(cNs l i).1,cR2 v:=by
 induction i with
 |zero=>intro v hv;simp [cNs] at hv
 |succ i ih=>
  have hx:l[i]? =some l[i]:=List.getElem?_eq_getElem (by omega)
  have h1:=(cN2 (l:=l) i (by omega)).2
  have h2:=cO8 (cNs l i).2 (reN (cNs l i).1 l[i])
  rw [cNx (Prod.eta _).symm hx]
  intro v hv
  rcases List.mem_append.1 hv with hv|hv
  · exact ih (by omega) v hv
  · rw [List.mem_singleton] at hv;subst hv
    exact ⟨by omega,by omega⟩
end Go.V
namespace Go.V
open Go.N Go.Proofs
set_option maxRecDepth 20000
def cWp:Tab:=[(24,i24),(4,i4),(22,i22),(34,i34),(27,i27),(3,i3),(79,i79),(9,i9)]
theorem cS6:TOK Tryz.prog cWp:=⟨K24,⟨K4,⟨K22,⟨K34,⟨K27,⟨K3,⟨K79,⟨K9,trivial⟩⟩⟩⟩⟩⟩⟩⟩
theorem cXs {s:ByteArray}(h:aBh s=some 0):s=aA0\/aA7 s=true:=by
 rcases aMe s with ⟨o,rfl⟩|hn
 · cases o<;>first|exact .inl rfl|exact .inr rfl|(exact absurd h (by decide))
 · rw [hn] at h;cases h
theorem cXt {s:ByteArray}{m:Nat}(h:aBh s=some m) (hm:0<m):s≠aA0/\aA7 s=false/\aIb s bBb=decide (m=2):=by
 rcases aMe s with ⟨o,rfl⟩|hn
 · rw [aFw] at h
   injection h with h
   subst h
   cases o<;>first|(exact ⟨by decide,rfl,rfl⟩)|(exact absurd hm (by decide))
 · rw [hn] at h;cases h
set_option maxHeartbeats 16000000 in
theorem cPy (g:Gr) (hs:∀x∈g.nodes,x.Sm) (hl:g.nodes.length<=1000):aAc Tryz.prog GL 31 [.agg g.cells]
 (λy=>y=if aC1 g=true then .tup [.agg (cNv g).1.cells,.ro 1 (aAh (cNv g).2),.int .i64 0] else .tup [.agg [.ro 8 [],.int .i64 0],.ro 1 [],.int .i64 1]):=by
 have hR:=bE1 g hs hl
 refine aAc.taken ?_
 cases hg:aC1 g
 · rw [hg] at hR
   rw [if_neg (by simp)]
   obtain ⟨l,p⟩:=g
   show aAc _ _ _ [.agg [.ro 8 (aAv l),.int .i64 p]] _
   refine vgo cS6 Tryz.func31 ?_
   repeat' first|refine sV ⟨?_⟩|refine sq (λh=>⟨?_⟩) λh=>⟨?_⟩|fail
   all_goals (conv=>whnf)
   exact ⟨_,cHx (aFo (show aC7 .nils (.ro 8 []) from ⟨8,rfl⟩) rfl) (show aC7 .nils (.ro 1 []) from ⟨1,rfl⟩) rfl,rfl⟩
 rw [hg] at hR
 rw [if_pos rfl]
 obtain ⟨h1,h2,q,hq1,hq⟩:=aMd hg
 have hpt:=λ{i:Nat} {x:Nd}=>@cE1 g hg i x
 have hfit:=λ{i:Nat} {x:Nd}=>@cGn g hg i x
 have hget:∀i (h:i<g.nodes.length),g.nodes[i]? =some g.nodes[i]:=λi h=>List.getElem?_eq_getElem h
 have hns:=λ{i:Nat} {x:Nd} (hx:g.nodes[i]? =some x)=>cXd hg hx
 have hmd:=λ{i:Nat} {x:Nd} (hx:g.nodes[i]? =some x)=>cXv hg hl hx
 clear hg
 obtain ⟨l,p⟩:=g
 dsimp only at hs hl h1 h2 hq1 hq hpt hfit hget hns hmd
 subst hq1
 show aAc _ _ _ [.agg [.ro 8 (aAv l),.int .i64 (q:Nat)]] _
 have hlr:=rowN_length l
 have hfin:∀pl out,cNs l l.length=(pl,out)->cNv ⟨l,(q:Int)⟩=(⟨out,atZ pl q⟩,pl):=λpl out h=>by simp only [cNv,h]
 generalize cNv ⟨l,(q:Int)⟩=G at hfin ⊢
 refine vgo cS6 Tryz.func31 ?_
 repeat' first|refine sV ⟨?_⟩|refine sq (λh=>⟨?_⟩) λh=>⟨?_⟩|fail
 refine ⟨Int.le_refl _,(show (0:Int)<=((aAv l).length:Int) by omega),(show ((aAv l).length:Int)<=1073741824 by omega),(show ((aAv l).length:Int)*((8:Nat):Int)<=140737488355328 by omega),0,rfl,?_⟩
 repeat' first|refine sV ⟨?_⟩|refine sq (λh=>⟨?_⟩) λh=>⟨?_⟩|fail
 refine ⟨[1,2,5,6,7,23,24,25],[0,1,2,3,4],λm st=>∃(i:Nat) (pl:List Int) (out:List Nd) (kv:List (ByteArray×AV)),i<=l.length/\m=l.length - i/\cNs l i=(pl,out)/\PlK kv out/\cX8 kv/\
  (i=0/\kv=[]/\st=⟨[(1,.bptr 0 0),(2,.bptr 1 0),(5,.bptr 2 0),(6,.own 3 0 0),(7,.map 4),(23,.ro 8 (aAv l)),(24,.int .i64 ((aAv l).length:Nat)),(25,.int .i64 (i:Nat))],[.box 24 [.ro 8 (aAv l),.int .i64 (q:Nat)],.box 24 [.nils,.int .i64 0],.box 24 [.nils,.int .i64 0],.row false 3 1 [],.kv []]⟩\/
  (0<i/\st=⟨[(1,.bptr 0 0),(2,.bptr 1 0),(5,.bptr 2 0),(6,.own 3 0 (aAh pl).length),(7,.map 4),(23,.ro 8 (aAv l)),(24,.int .i64 ((aAv l).length:Nat)),(25,.int .i64 (i:Nat))],[.box 24 [.ro 8 (aAv l),.int .i64 (q:Nat)],.box 24 [.nils,.int .i64 0],.box 24 [.own 5 0 (aAv out).length,.int .i64 0],.row false 3 1 (aAh pl),.kv kv,.row false 34 8 (aAv out)]⟩)),rfl,
  ⟨l.length,0,[],[],[],by omega,rfl,rfl,cWf,(λe he=>by cases he),.inl ⟨rfl,rfl,rfl⟩⟩,?_⟩
 rintro m _ ⟨i,pl,out,kv,hi,hm,hpr,hpk0,hik0,hst⟩
 have hlen:=cN2 (l:=l) i hi
 have hpm:=cV9 hl i hi
 rw [hpr] at hlen hpm
 dsimp only at hlen hpm
 have hpl:=rowZ_length pl
 have hol:=rowN_length out
 rcases Nat.lt_or_ge i l.length with hil|hge
 · obtain ⟨x,hx⟩:∃x,x=l[i]:=⟨_,rfl⟩
   have hgx:l[i]? =some x:=by rw [hx];exact hget i hil
   have g:(aAv l)[i]? =some x.cells:=by rw [hx];exact aB1 hil
   clear hx
   have hyn:=cXg (pl:=pl) (hns hgx)
   have hkey:=cYf (reN pl x) (cH1 (hs x (List.mem_of_getElem? hgx))) (cXx (hmd hgx) hpm)
   have hnx:=cNx hpr hgx
   obtain ⟨m0,hop,F⟩:=hfit hgx
   have hm2:=aNi hop
   have h3:m0=0\/m0=1\/m0=2:=by omega
   have hDn:=hpt hgx
   have hb0:m0=0->x.op=aA0\/x.name≠⟨#[]⟩:=λe=>by
    subst e
    rcases cXs hop with h|h
    · exact .inl h
    · exact .inr λe=>by have:=F.nm h;rw [e,aGz] at this;cases this
   have hb1:0<m0->x.op≠aA0/\x.name=⟨#[]⟩/\aIb x.op bBb=decide (m0=2):=λh=>by
    obtain ⟨e1,e2,e3⟩:=cXt hop h
    exact ⟨e1,F.nn e2,e3⟩
   have hbz:=F.b0
   have htwo:=cYg GL x.op
   clear F
   rcases hst with ⟨rfl,rfl,rfl⟩|⟨h0,rfl⟩
   · obtain ⟨rfl,rfl⟩:pl=[]/\out=[]:=by cases hpr;exact ⟨rfl,rfl⟩
     have hfi:cNt [] (reN [] x)=([]:List Nd).length:=cNw (λj hj=>by simp at hj)
     have hpk:=cWg cWf hyn hfi
     have hik:=cU8 (kv:=[]) (λe he=>by cases he) (cVw (reN [] x)) ((0:Nat):Int)
     rw [hfi,if_pos rfl] at hnx
     clear hfi hyn hpm hpk0 hik0
     obtain ⟨op,a,b,name,shape,k2,n,data⟩:=x
     rcases h3 with rfl|rfl|rfl
     · simp only [re0 hop] at hnx hkey hpk hik
       have hb:op=aA0\/name≠⟨#[]⟩:=hb0 rfl
       repeat' first|refine sV ⟨?_⟩|refine sq (λh=>⟨?_⟩) λh=>⟨?_⟩|fail
       all_goals refine ⟨.int .i64 0,false,rfl,rfl,?_⟩
       all_goals (repeat' first|refine sV ⟨?_⟩|refine sq (λh=>⟨?_⟩) λh=>⟨?_⟩|fail)
       conv=>whnf
       refine ⟨Nat.le_of_ble_eq_true rfl,λh=>Nat.succ_ne_zero _ (congrArg List.length h),?_⟩
       repeat' first|refine sV ⟨?_⟩|refine sq (λh=>⟨?_⟩) λh=>⟨?_⟩|fail
       refine ⟨Nat.le_refl _,(show (0+1)*8<=140737488355328 by omega),_,rfl,?_⟩
       repeat' first|refine sV ⟨?_⟩|refine sq (λh=>⟨?_⟩) λh=>⟨?_⟩|fail
       refine ⟨[0,1,2,9,4,7],l.length - (0+1),rfl,by omega,0+1,_,_,_,by omega,rfl,hnx,hpk,hik,.inr ⟨by omega,?_⟩⟩
       all_goals (refine (congr (congrArg St.mk (?_:_=_)) (congr (congrArg List.cons (?_:_=_)) (congr (congrArg List.cons (?_:_=_)) (congr (congrArg List.cons (?_:_=_)) (congr (congrArg List.cons (?_:_=_)) (congr (congrArg List.cons (?_:_=_)) (congr (congrArg List.cons (?_:_=_)) (?_:_=_)))))))))
       any_goals rfl
       all_goals (conv=>lhs;whnf)
       all_goals refine congrArg Ob.kv ?_
       all_goals refine Eq.trans (congrArg (List.map _) (congrArg (aXw [] _) (?_:_=AV.int .i64 (0:Nat)))) (cN7 _ hik)
       all_goals (conv=>lhs;whnf)
     · obtain ⟨u,_,hu⟩:=hDn a (by rw [dP1 hop];simp)
       omega
     · obtain ⟨u,_,hu⟩:=hDn a (by rw [dP2 hop];simp)
       omega
   · by_cases hfi:cNt out (reN pl x)=out.length
     · have hf:=cXe hpk0 hyn hfi
       have hpk:=cWg hpk0 hyn hfi
       have hik:=cU8 hik0 (cVw (reN pl x)) (out.length:Nat)
       rw [hfi,if_pos rfl] at hnx
       rw [show out.length=(aAv out).length from (rowN_length out).symm] at hnx hpk hik
       clear hfi hyn hpm hpk0 hik0
       obtain ⟨op,a,b,name,shape,k2,n,data⟩:=x
       rcases h3 with rfl|rfl|rfl
       · simp only [re0 hop] at hnx hf hkey hpk hik
         have hb:op=aA0\/name≠⟨#[]⟩:=hb0 rfl
         rcases hb with rfl|hb
         · repeat' first|refine sV ⟨?_⟩|refine sq (λh=>⟨?_⟩) λh=>⟨?_⟩|fail
           all_goals refine ⟨.int .i64 0,false,by rw [hf];rfl,by rw [hf];rfl,?_⟩
           all_goals (repeat' first|refine sV ⟨?_⟩|refine sq (λh=>⟨?_⟩) λh=>⟨?_⟩|fail)
           all_goals refine ⟨Nat.le_refl _,(show ((aAv out).length+1)*120<=140737488355328 by omega),_,cFy out ⟨aA0,a,b,name,shape,k2,n,data⟩ rfl,?_⟩
           all_goals (repeat' first|refine sV ⟨?_⟩|refine sq (λh=>⟨?_⟩) λh=>⟨?_⟩|fail)
           all_goals refine ⟨Nat.le_refl _,(show ((aAh pl).length+1)*8<=140737488355328 by omega),_,cEr pl _,?_⟩
           all_goals (repeat' first|refine sV ⟨?_⟩|refine sq (λh=>⟨?_⟩) λh=>⟨?_⟩|fail)
           all_goals refine ⟨[0,1,2,10,4,8],l.length - (i+1),rfl,by omega,i+1,_,_,_,by omega,rfl,hnx,hpk,hik,.inr ⟨by omega,?_⟩⟩
           all_goals (refine (congr (congrArg St.mk (?_:_=_)) (congr (congrArg List.cons (?_:_=_)) (congr (congrArg List.cons (?_:_=_)) (congr (congrArg List.cons (?_:_=_)) (congr (congrArg List.cons (?_:_=_)) (congr (congrArg List.cons (?_:_=_)) (congr (congrArg List.cons (?_:_=_)) (?_:_=_)))))))))
           any_goals rfl
           all_goals (conv=>lhs;whnf)
           all_goals refine congrArg Ob.kv ?_
           all_goals refine Eq.trans (congrArg (List.map _) (congrArg (aXw kv _) (?_:_=AV.int .i64 ((aAv out).length:Nat)))) (cN7 _ hik)
           all_goals (conv=>lhs;whnf)
         · repeat' first|refine sV ⟨?_⟩|refine sq (λh=>⟨?_⟩) λh=>⟨?_⟩|fail
           all_goals refine ⟨.int .i64 0,false,by rw [hf];rfl,by rw [hf];rfl,?_⟩
           all_goals (repeat' first|refine sV ⟨?_⟩|refine sq (λh=>⟨?_⟩) λh=>⟨?_⟩|fail)
           all_goals refine ⟨Nat.le_refl _,(show ((aAv out).length+1)*120<=140737488355328 by omega),_,cFy out ⟨op,a,b,name,shape,k2,n,data⟩ rfl,?_⟩
           all_goals (repeat' first|refine sV ⟨?_⟩|refine sq (λh=>⟨?_⟩) λh=>⟨?_⟩|fail)
           all_goals refine ⟨Nat.le_refl _,(show ((aAh pl).length+1)*8<=140737488355328 by omega),_,cEr pl _,?_⟩
           all_goals (repeat' first|refine sV ⟨?_⟩|refine sq (λh=>⟨?_⟩) λh=>⟨?_⟩|fail)
           all_goals refine ⟨[0,1,2,10,4,8],l.length - (i+1),rfl,by omega,i+1,_,_,_,by omega,rfl,hnx,hpk,hik,.inr ⟨by omega,?_⟩⟩
           all_goals (refine (congr (congrArg St.mk (?_:_=_)) (congr (congrArg List.cons (?_:_=_)) (congr (congrArg List.cons (?_:_=_)) (congr (congrArg List.cons (?_:_=_)) (congr (congrArg List.cons (?_:_=_)) (congr (congrArg List.cons (?_:_=_)) (congr (congrArg List.cons (?_:_=_)) (?_:_=_)))))))))
           any_goals rfl
           all_goals (conv=>lhs;whnf)
           all_goals refine congrArg Ob.kv ?_
           all_goals refine Eq.trans (congrArg (List.map _) (congrArg (aXw kv _) (?_:_=AV.int .i64 ((aAv out).length:Nat)))) (cN7 _ hik)
           all_goals (conv=>lhs;whnf)
       · obtain ⟨hc,hn2,htw⟩:=hb1 (by decide)
         have hb2:=hbz (by decide)
         simp only [re1 hop] at hnx hf hkey hpk hik
         rw [dP1 hop] at hDn
         dsimp only at hnx hDn hf hkey hpk hik hc hn2 htw hb2
         subst hn2
         subst hb2
         rw [show aIb op bBb=false from htw] at htwo
         obtain ⟨u,rfl,hu⟩:∃u:Nat,a=u/\u<i:=hDn a (by simp)
         have gu:(aAh pl)[0+u]? =some [.int .i64 (atZ pl u)]:=by rw [Nat.zero_add,aE6 (by omega),cEs (by omega)]
         repeat' first|refine sV ⟨?_⟩|refine sq (λh=>⟨?_⟩) λh=>⟨?_⟩|fail
         all_goals refine ⟨.int .i64 0,false,by rw [hf];rfl,by rw [hf];rfl,?_⟩
         all_goals (repeat' first|refine sV ⟨?_⟩|refine sq (λh=>⟨?_⟩) λh=>⟨?_⟩|fail)
         all_goals refine ⟨Nat.le_refl _,(show ((aAv out).length+1)*120<=140737488355328 by omega),_,cFy out ⟨op,atZ pl u,0,⟨#[]⟩,shape,k2,n,data⟩ rfl,?_⟩
         all_goals (repeat' first|refine sV ⟨?_⟩|refine sq (λh=>⟨?_⟩) λh=>⟨?_⟩|fail)
         all_goals refine ⟨Nat.le_refl _,(show ((aAh pl).length+1)*8<=140737488355328 by omega),_,cEr pl _,?_⟩
         all_goals (repeat' first|refine sV ⟨?_⟩|refine sq (λh=>⟨?_⟩) λh=>⟨?_⟩|fail)
         all_goals refine ⟨[0,1,2,10,4,8],l.length - (i+1),rfl,by omega,i+1,_,_,_,by omega,rfl,hnx,hpk,hik,.inr ⟨by omega,?_⟩⟩
         all_goals (refine (congr (congrArg St.mk (?_:_=_)) (congr (congrArg List.cons (?_:_=_)) (congr (congrArg List.cons (?_:_=_)) (congr (congrArg List.cons (?_:_=_)) (congr (congrArg List.cons (?_:_=_)) (congr (congrArg List.cons (?_:_=_)) (congr (congrArg List.cons (?_:_=_)) (?_:_=_)))))))))
         any_goals rfl
         all_goals (conv=>lhs;whnf)
         all_goals refine congrArg Ob.kv ?_
         all_goals refine Eq.trans (congrArg (List.map _) (congrArg (aXw kv _) (?_:_=AV.int .i64 ((aAv out).length:Nat)))) (cN7 _ hik)
         all_goals (conv=>lhs;whnf)
       · obtain ⟨hc,hn2,htw⟩:=hb1 (by decide)
         simp only [re2 hop] at hnx hf hkey hpk hik
         rw [dP2 hop] at hDn
         dsimp only at hnx hDn hf hkey hpk hik hc hn2 htw
         subst hn2
         rw [show aIb op bBb=true from htw] at htwo
         obtain ⟨u,rfl,hu⟩:∃u:Nat,a=u/\u<i:=hDn a (by simp)
         obtain ⟨v,rfl,hv⟩:∃u:Nat,b=u/\u<i:=hDn b (by simp)
         have gu:(aAh pl)[0+u]? =some [.int .i64 (atZ pl u)]:=by rw [Nat.zero_add,aE6 (by omega),cEs (by omega)]
         have gv:(aAh pl)[0+v]? =some [.int .i64 (atZ pl v)]:=by rw [Nat.zero_add,aE6 (by omega),cEs (by omega)]
         repeat' first|refine sV ⟨?_⟩|refine sq (λh=>⟨?_⟩) λh=>⟨?_⟩|fail
         all_goals refine ⟨.int .i64 0,false,by rw [hf];rfl,by rw [hf];rfl,?_⟩
         all_goals (repeat' first|refine sV ⟨?_⟩|refine sq (λh=>⟨?_⟩) λh=>⟨?_⟩|fail)
         all_goals refine ⟨Nat.le_refl _,(show ((aAv out).length+1)*120<=140737488355328 by omega),_,cFy out ⟨op,atZ pl u,atZ pl v,⟨#[]⟩,shape,k2,n,data⟩ rfl,?_⟩
         all_goals (repeat' first|refine sV ⟨?_⟩|refine sq (λh=>⟨?_⟩) λh=>⟨?_⟩|fail)
         all_goals refine ⟨Nat.le_refl _,(show ((aAh pl).length+1)*8<=140737488355328 by omega),_,cEr pl _,?_⟩
         all_goals (repeat' first|refine sV ⟨?_⟩|refine sq (λh=>⟨?_⟩) λh=>⟨?_⟩|fail)
         all_goals refine ⟨[0,1,2,10,4,8],l.length - (i+1),rfl,by omega,i+1,_,_,_,by omega,rfl,hnx,hpk,hik,.inr ⟨by omega,?_⟩⟩
         all_goals (refine (congr (congrArg St.mk (?_:_=_)) (congr (congrArg List.cons (?_:_=_)) (congr (congrArg List.cons (?_:_=_)) (congr (congrArg List.cons (?_:_=_)) (congr (congrArg List.cons (?_:_=_)) (congr (congrArg List.cons (?_:_=_)) (congr (congrArg List.cons (?_:_=_)) (?_:_=_)))))))))
         any_goals rfl
         all_goals (conv=>lhs;whnf)
         all_goals refine congrArg Ob.kv ?_
         all_goals refine Eq.trans (congrArg (List.map _) (congrArg (aXw kv _) (?_:_=AV.int .i64 ((aAv out).length:Nat)))) (cN7 _ hik)
         all_goals (conv=>lhs;whnf)
     · have hf:=cXf hpk0 hyn hfi
       have hpk:=hpk0
       have hik:=hik0
       rw [if_neg hfi] at hnx
       generalize cNt out (reN pl x)=k at hnx hf hfi
       clear hfi hyn hpm hpk0 hik0
       obtain ⟨op,a,b,name,shape,k2,n,data⟩:=x
       rcases h3 with rfl|rfl|rfl
       · simp only [re0 hop] at hnx hf hkey hpk hik
         have hb:op=aA0\/name≠⟨#[]⟩:=hb0 rfl
         rcases hb with rfl|hb
         · repeat' first|refine sV ⟨?_⟩|refine sq (λh=>⟨?_⟩) λh=>⟨?_⟩|fail
           all_goals refine ⟨.int .i64 (k:Nat),true,by rw [hf];rfl,by rw [hf];rfl,?_⟩
           all_goals (repeat' first|refine sV ⟨?_⟩|refine sq (λh=>⟨?_⟩) λh=>⟨?_⟩|fail)
           all_goals refine ⟨Nat.le_refl _,(show ((aAh pl).length+1)*8<=140737488355328 by omega),_,cEr pl _,?_⟩
           all_goals (repeat' first|refine sV ⟨?_⟩|refine sq (λh=>⟨?_⟩) λh=>⟨?_⟩|fail)
           all_goals exact ⟨[0,1,2,8,4,5],l.length - (i+1),rfl,by omega,i+1,_,_,_,by omega,rfl,hnx,hpk,hik,.inr ⟨by omega,Eq.trans rfl (congrArg (λz:List (ByteArray×AV)=>(⟨[(1,.bptr 0 0),(2,.bptr 1 0),(5,.bptr 2 0),(6,.own 3 0 (aAh (pl++[(k:Int)])).length),(7,.map 4),(23,.ro 8 (aAv l)),(24,.int .i64 ((aAv l).length:Nat)),(25,.int .i64 ((i+1:Nat):Int))],[.box 24 [.ro 8 (aAv l),.int .i64 (q:Nat)],.box 24 [.nils,.int .i64 0],.box 24 [.own 5 0 (aAv out).length,.int .i64 0],.row false 3 1 (aAh (pl++[(k:Int)])),.kv z,.row false 34 8 (aAv out)]⟩:St)) (cN7 [0,1,2,8,4,5] hik))⟩⟩
         · repeat' first|refine sV ⟨?_⟩|refine sq (λh=>⟨?_⟩) λh=>⟨?_⟩|fail
           all_goals refine ⟨.int .i64 (k:Nat),true,by rw [hf];rfl,by rw [hf];rfl,?_⟩
           all_goals (repeat' first|refine sV ⟨?_⟩|refine sq (λh=>⟨?_⟩) λh=>⟨?_⟩|fail)
           all_goals refine ⟨Nat.le_refl _,(show ((aAh pl).length+1)*8<=140737488355328 by omega),_,cEr pl _,?_⟩
           all_goals (repeat' first|refine sV ⟨?_⟩|refine sq (λh=>⟨?_⟩) λh=>⟨?_⟩|fail)
           all_goals exact ⟨[0,1,2,8,4,5],l.length - (i+1),rfl,by omega,i+1,_,_,_,by omega,rfl,hnx,hpk,hik,.inr ⟨by omega,Eq.trans rfl (congrArg (λz:List (ByteArray×AV)=>(⟨[(1,.bptr 0 0),(2,.bptr 1 0),(5,.bptr 2 0),(6,.own 3 0 (aAh (pl++[(k:Int)])).length),(7,.map 4),(23,.ro 8 (aAv l)),(24,.int .i64 ((aAv l).length:Nat)),(25,.int .i64 ((i+1:Nat):Int))],[.box 24 [.ro 8 (aAv l),.int .i64 (q:Nat)],.box 24 [.nils,.int .i64 0],.box 24 [.own 5 0 (aAv out).length,.int .i64 0],.row false 3 1 (aAh (pl++[(k:Int)])),.kv z,.row false 34 8 (aAv out)]⟩:St)) (cN7 [0,1,2,8,4,5] hik))⟩⟩
       · obtain ⟨hc,hn2,htw⟩:=hb1 (by decide)
         have hb2:=hbz (by decide)
         simp only [re1 hop] at hnx hf hkey hpk hik
         rw [dP1 hop] at hDn
         dsimp only at hnx hDn hf hkey hpk hik hc hn2 htw hb2
         subst hn2
         subst hb2
         rw [show aIb op bBb=false from htw] at htwo
         obtain ⟨u,rfl,hu⟩:∃u:Nat,a=u/\u<i:=hDn a (by simp)
         have gu:(aAh pl)[0+u]? =some [.int .i64 (atZ pl u)]:=by rw [Nat.zero_add,aE6 (by omega),cEs (by omega)]
         repeat' first|refine sV ⟨?_⟩|refine sq (λh=>⟨?_⟩) λh=>⟨?_⟩|fail
         all_goals refine ⟨.int .i64 (k:Nat),true,by rw [hf];rfl,by rw [hf];rfl,?_⟩
         all_goals (repeat' first|refine sV ⟨?_⟩|refine sq (λh=>⟨?_⟩) λh=>⟨?_⟩|fail)
         all_goals refine ⟨Nat.le_refl _,(show ((aAh pl).length+1)*8<=140737488355328 by omega),_,cEr pl _,?_⟩
         all_goals (repeat' first|refine sV ⟨?_⟩|refine sq (λh=>⟨?_⟩) λh=>⟨?_⟩|fail)
         all_goals exact ⟨[0,1,2,8,4,5],l.length - (i+1),rfl,by omega,i+1,_,_,_,by omega,rfl,hnx,hpk,hik,.inr ⟨by omega,Eq.trans rfl (congrArg (λz:List (ByteArray×AV)=>(⟨[(1,.bptr 0 0),(2,.bptr 1 0),(5,.bptr 2 0),(6,.own 3 0 (aAh (pl++[(k:Int)])).length),(7,.map 4),(23,.ro 8 (aAv l)),(24,.int .i64 ((aAv l).length:Nat)),(25,.int .i64 ((i+1:Nat):Int))],[.box 24 [.ro 8 (aAv l),.int .i64 (q:Nat)],.box 24 [.nils,.int .i64 0],.box 24 [.own 5 0 (aAv out).length,.int .i64 0],.row false 3 1 (aAh (pl++[(k:Int)])),.kv z,.row false 34 8 (aAv out)]⟩:St)) (cN7 [0,1,2,8,4,5] hik))⟩⟩
       · obtain ⟨hc,hn2,htw⟩:=hb1 (by decide)
         simp only [re2 hop] at hnx hf hkey hpk hik
         rw [dP2 hop] at hDn
         dsimp only at hnx hDn hf hkey hpk hik hc hn2 htw
         subst hn2
         rw [show aIb op bBb=true from htw] at htwo
         obtain ⟨u,rfl,hu⟩:∃u:Nat,a=u/\u<i:=hDn a (by simp)
         obtain ⟨v,rfl,hv⟩:∃u:Nat,b=u/\u<i:=hDn b (by simp)
         have gu:(aAh pl)[0+u]? =some [.int .i64 (atZ pl u)]:=by rw [Nat.zero_add,aE6 (by omega),cEs (by omega)]
         have gv:(aAh pl)[0+v]? =some [.int .i64 (atZ pl v)]:=by rw [Nat.zero_add,aE6 (by omega),cEs (by omega)]
         repeat' first|refine sV ⟨?_⟩|refine sq (λh=>⟨?_⟩) λh=>⟨?_⟩|fail
         all_goals refine ⟨.int .i64 (k:Nat),true,by rw [hf];rfl,by rw [hf];rfl,?_⟩
         all_goals (repeat' first|refine sV ⟨?_⟩|refine sq (λh=>⟨?_⟩) λh=>⟨?_⟩|fail)
         all_goals refine ⟨Nat.le_refl _,(show ((aAh pl).length+1)*8<=140737488355328 by omega),_,cEr pl _,?_⟩
         all_goals (repeat' first|refine sV ⟨?_⟩|refine sq (λh=>⟨?_⟩) λh=>⟨?_⟩|fail)
         all_goals exact ⟨[0,1,2,8,4,5],l.length - (i+1),rfl,by omega,i+1,_,_,_,by omega,rfl,hnx,hpk,hik,.inr ⟨by omega,Eq.trans rfl (congrArg (λz:List (ByteArray×AV)=>(⟨[(1,.bptr 0 0),(2,.bptr 1 0),(5,.bptr 2 0),(6,.own 3 0 (aAh (pl++[(k:Int)])).length),(7,.map 4),(23,.ro 8 (aAv l)),(24,.int .i64 ((aAv l).length:Nat)),(25,.int .i64 ((i+1:Nat):Int))],[.box 24 [.ro 8 (aAv l),.int .i64 (q:Nat)],.box 24 [.nils,.int .i64 0],.box 24 [.own 5 0 (aAv out).length,.int .i64 0],.row false 3 1 (aAh (pl++[(k:Int)])),.kv z,.row false 34 8 (aAv out)]⟩:St)) (cN7 [0,1,2,8,4,5] hik))⟩⟩
 · have hi2:i=l.length:=by omega
   subst hi2
   have hG:=hfin pl out hpr
   have gq:(aAh pl)[0+q]? =some [.int .i64 (atZ pl q)]:=by rw [Nat.zero_add,aE6 (by omega),cEs (by omega)]
   rcases hst with ⟨h0,_,rfl⟩|⟨h0,rfl⟩
   · omega
   · repeat' first|refine sV ⟨?_⟩|refine sq (λh=>⟨?_⟩) λh=>⟨?_⟩|fail
     all_goals (conv=>whnf)
     exact ⟨_,cHx (aFo rfl rfl) rfl rfl,by rw [hG];rfl⟩
end Go.V
namespace Go.V
open Go.N Go.Proofs
set_option maxRecDepth 20000
end Go.V
namespace Go.V
open Go.N Go.Proofs
set_option maxRecDepth 20000
def cVy:Tab:=[(34,i34),(22,i22),(24,i24),(28,i28),(3,i3),(27,i27)]
theorem cUh:TOK Tryz.prog cVy:=⟨K34,⟨K22,⟨K24,⟨K28,⟨K3,⟨K27,trivial⟩⟩⟩⟩⟩⟩
def ndB (op:ByteArray) (a b:Int):List AV:=[.str op,.int .i64 a,.int .i64 b,.str ⟨#[]⟩,.nils,.str ⟨#[]⟩,.int .i64 0,.nils]
theorem cXu (op:ByteArray) (a b:Int):aLg (ndB op a b) (Nd.cells ⟨op,a,b,⟨#[]⟩,[],⟨#[]⟩,0,[]⟩):=
 ⟨_,_,rfl,rfl,_,_,rfl,rfl,_,_,rfl,rfl,_,_,rfl,rfl,_,_,rfl,.inr ⟨1,rfl⟩,_,_,rfl,rfl,_,_,rfl,rfl,_,_,rfl,.inr ⟨1,rfl⟩,rfl⟩
def cWb (a b:Int):Nd:=⟨bBe,a,b,⟨#[]⟩,[],⟨#[]⟩,0,[]⟩
def G1:Gr:=⟨[nd0 aGh ⟨#[119]⟩,nd0 aMk ⟨#[]⟩,nd0 aMk ⟨#[]⟩,cWb 1 2],3⟩
theorem cX9:aC1 G1=true:=by decide +kernel
theorem cWm:cNv G1=(⟨[nd0 aGh ⟨#[119]⟩,nd0 aMk ⟨#[]⟩,cWb 1 1],2⟩,[0,1,1,2]):=by
 have n1:nd0 aGh ⟨#[119]⟩≠nd0 aMk ⟨#[]⟩:=λh=>absurd (congrArg Nd.op h) (by decide)
 have n2:nd0 aGh ⟨#[119]⟩≠cWb 1 1:=λh=>absurd (congrArg Nd.op h) (by decide)
 have n3:nd0 aMk ⟨#[]⟩≠cWb 1 1:=λh=>absurd (congrArg Nd.op h) (by decide)
 have r1:∀pl,reN pl (nd0 aGh ⟨#[119]⟩)=nd0 aGh ⟨#[119]⟩:=λ_=>re0 (by decide)
 have r2:∀pl,aBh (nd0 aMk ⟨#[]⟩).op=some 1/\reN pl (nd0 aMk ⟨#[]⟩)={ nd0 aMk ⟨#[]⟩ with a:=atZ pl 0}:=λ_=>⟨by decide,re1 (by decide)⟩
 have e1:cNs G1.nodes 1=([0],[nd0 aGh ⟨#[119]⟩]):=by
  rw [cNx (l:=G1.nodes) (i:=0) rfl (x:=nd0 aGh ⟨#[119]⟩) rfl,r1,cNw (by simp)]
  rfl
 have e2:cNs G1.nodes 2=([0,1],[nd0 aGh ⟨#[119]⟩,nd0 aMk ⟨#[]⟩]):=by
  rw [cNx e1 (x:=nd0 aMk ⟨#[]⟩) rfl,(r2 _).2,show ({ nd0 aMk ⟨#[]⟩ with a:=atZ [0] 0}:Nd)=nd0 aMk ⟨#[]⟩ from rfl,
   cNw (λj hj=>by
    obtain rfl:j=0:=by simpa using hj
    exact n1)]
  rfl
 have e3:cNs G1.nodes 3=([0,1,1],[nd0 aGh ⟨#[119]⟩,nd0 aMk ⟨#[]⟩]):=by
  rw [cNx e2 (x:=nd0 aMk ⟨#[]⟩) rfl,(r2 _).2,show ({ nd0 aMk ⟨#[]⟩ with a:=atZ [0,1] 0}:Nd)=nd0 aMk ⟨#[]⟩ from rfl,
   cN8 (out:=[nd0 aGh ⟨#[119]⟩,nd0 aMk ⟨#[]⟩]) (y:=nd0 aMk ⟨#[]⟩) (k:=1) (by decide) rfl (λj hj=>by
    obtain rfl:j=0:=by omega
    exact n1)]
  rfl
 have e4:cNs G1.nodes 4=([0,1,1,2],[nd0 aGh ⟨#[119]⟩,nd0 aMk ⟨#[]⟩,cWb 1 1]):=by
  rw [cNx e3 (x:=cWb 1 2) rfl,re2 (by decide),show ({ cWb 1 2 with a:=atZ [0,1,1] (cWb 1 2).a,b:=atZ [0,1,1] (cWb 1 2).b}:Nd)=cWb 1 1 from rfl,
   cNw (λj hj=>by
    have:j=0\/j=1:=by simp at hj;omega
    rcases this with rfl|rfl
    · exact n2
    · exact n3)]
  rfl
 have e:G1.nodes.length=4:=rfl
 rw [cNv,e,e4]
 rfl
theorem cVz:aAc Tryz.prog GL 30 [] (λr=>r= .bool true):=by
 have hp:=cPy G1 (λx hx=>by
  simp only [G1,List.mem_cons,List.not_mem_nil,or_false] at hx
  rcases hx with rfl|rfl|rfl|rfl<;>exact ⟨by decide,by decide,by decide,by decide,λd hd=>by simp [nd0,cWb] at hd⟩) (by decide)
 rw [cX9,if_pos rfl,cWm] at hp
 have hs:=aDh GL [0,1,1,2] [0,1,1,2] (by decide) (by decide)
 rw [decide_eq_true rfl] at hs
 have hp:=hp.args (xs:=[.agg [.ro 8 [ndA aGh ⟨#[119]⟩,ndA aMk ⟨#[]⟩,ndA aMk ⟨#[]⟩,ndB bBe 1 2],.int .i64 3]])
  ⟨_,_,rfl,⟨_,rfl,_,_,rfl,⟨_,rfl,_,_,rfl,cG8 _ _,_,_,rfl,cG8 _ _,_,_,rfl,cG8 _ _,_,_,rfl,cXu _ _ _,rfl⟩,_,_,rfl,rfl,rfl⟩,rfl⟩
 refine vgo cUh Tryz.func30 ?_
 repeat' first|refine sV ⟨?_⟩|refine sq (λh=>⟨?_⟩) λh=>⟨?_⟩|fail
 refine ⟨2,_,rfl,rfl,?_⟩
 repeat' first|refine sV ⟨?_⟩|refine sq (λh=>⟨?_⟩) λh=>⟨?_⟩|fail
 conv=>whnf
 rfl
end Go.V
namespace Go.V
open Go.N Go.Proofs
set_option maxRecDepth 20000
theorem cU6 {g:Gr}{out:List Nd}{pl:List Int}{N:Nat->Bool}(E:Emb g.nodes out pl N){j:Nat}{x:Nd}(hx:g.nodes[j]? =some x) (hN:N j=true){p:Int}(hp:p∈cEp x) (hr:inR p (g.nodes.take j)=true):bF1 out (atZ pl p)=bF1 g.nodes p:=by
 obtain ⟨k,rfl,hk1,hk2⟩:=aDq hr
 obtain ⟨hNk,_⟩:=E.lt j x hx hN k hp
 obtain ⟨mk,e1,e2⟩:=E.at_ k _ (List.getElem?_eq_getElem hk2) hNk
 rw [e1,bF2 e2,(cEq _ _).1,bF2 (List.getElem?_eq_getElem hk2)]
theorem cWs {g:Gr}{out:List Nd}{pl:List Int}{N:Nat->Bool}(E:Emb g.nodes out pl N) (hg:aC1 g=true){j:Nat}{x:Nd}(hx:g.nodes[j]? =some x) (hN:N j=true):aN9 out (reN pl x)=aN9 g.nodes x:=by
 obtain ⟨o,ho,F⟩:=aIo hg hx
 obtain ⟨ra,rb,_,_⟩:=cH2 (pl:=pl) ho
 have hpn:aEe x.op=o.many:=by rw [ho,aHt]
 rw [aN9,aN9,(cEq pl x).1,hpn]
 rcases Nat.eq_zero_or_pos o.many with h0|h0
 · rw [h0];rfl
 · rw [(ra h0).1,cU6 E hx hN (ra h0).2 (F.ia h0)]
   rcases Nat.lt_or_ge o.many 2 with h2|h2
   · rw [decide_eq_true h2,Bool.true_or,Bool.true_or]
   · rw [(rb h2).1,cU6 E hx hN (rb h2).2 (F.ib h2)]
def cX2 (l:List Nd):Prop:=∀(j:Nat) (x:Nd),l[j]? =some x->aN9 l x=false
theorem cU5 {g:Gr}{out:List Nd}{pl:List Int}{N:Nat->Bool}(E:Emb g.nodes out pl N) (hg:aC1 g=true) (h:cX2 g.nodes):cX2 out:=λm y hy=>by
 obtain ⟨j,x,hx,hj,hN,hm,rfl⟩:=cGv E hy
 rw [cWs E hg hx hN];exact h j x hx
theorem cV1 {bd:Nd->List Rat}{g:Gr}(hg:aC1 g=true):cX2 (aAm bd g.nodes g.nodes.length):=λj y hy=>by
 rcases Nat.eq_zero_or_pos (aEe y.op) with h0|h0
 · exact aV8 h0
 · exact (bM7 hg hy h0).1
def cXk (l:List Nd):Prop:=∀(i j:Nat) (x:Nd),l[i]? =some x->l[j]? =some x->i=j
theorem cW6 {l:List Nd}(h:∀n,cO7 l n):cXk l:=by
 have key:∀{i j:Nat} {x:Nd},l[i]? =some x->l[j]? =some x->¬i<j:=λ{i j x} hi hj hij=>by
  obtain ⟨h1,e1⟩:=List.getElem?_eq_some_iff.1 hi
  obtain ⟨h2,e2⟩:=List.getElem?_eq_some_iff.1 hj
  exact h (j+1) j h2 i hij (by omega) (by rw [e1,e2])
 intro i j x hi hj
 have h1:=key hi hj
 have h2:=key hj hi
 omega
theorem cVm {l:List Nd}:cXk (cNs l l.length).2:=cW6 λn=>cOo n
def Inj (pl:List Int) (N:Nat->Bool) (n:Nat):Prop:=∀i j:Nat,i<n->j<n->N i=true->N j=true->atZ pl (i:Nat)=atZ pl (j:Nat)->i=j
theorem cWh {g:Gr}(keep:List Int):Inj (cEm g.nodes (NB g keep) g.nodes.length).1 (NB g keep) g.nodes.length:=λi j hi hj h1 h2 e=>by
 rw [cFc (List.getElem?_eq_getElem hi) h1,cFc (List.getElem?_eq_getElem hj) h2] at e
 rcases Nat.lt_trichotomy i j with h|h|h
 · have:=cHi h h1;omega
 · exact h
 · have:=cHi h h2;omega
theorem cXw {g:Gr}{out:List Nd}{pl:List Int}{N:Nat->Bool}(E:Emb g.nodes out pl N) (hg:aC1 g=true) (hI:Inj pl N g.nodes.length){i j:Nat}{x y:Nd}(hx:g.nodes[i]? =some x) (hy:g.nodes[j]? =some y) (h1:N i=true) (h2:N j=true) (h:reN pl x=reN pl y):x=y:=by
 obtain ⟨f1,f2,f3,f4,f5,f6⟩:=cEq pl x
 obtain ⟨e1,e2,e3,e4,e5,e6⟩:=cEq pl y
 obtain ⟨o,ho,F⟩:=aIo hg hx
 obtain ⟨o',ho',F'⟩:=aIo hg hy
 have hop:x.op=y.op:=by rw [<- f1,<-e1,h]
 obtain rfl:=aRt (ho.symm.trans (hop.trans ho'))
 obtain ⟨ra,rb,r0,r1⟩:=cH2 (pl:=pl) ho
 obtain ⟨sa,sb,s0,s1⟩:=cH2 (pl:=pl) ho'
 have part:∀{p p':Int},p∈cEp x->inR p (g.nodes.take i)=true->p'∈cEp y->inR p' (g.nodes.take j)=true->atZ pl p=atZ pl p'->p=p':=λ{p p'} hp hr hp' hr' e=>by
  obtain ⟨k,rfl,hk1,hk2⟩:=aDq hr
  obtain ⟨k',rfl,hk1',hk2'⟩:=aDq hr'
  rw [hI k k' hk2 hk2' (E.lt i x hx h1 k hp).1 (E.lt j y hy h2 k' hp').1 e]
 have ha:x.a=y.a:=by
  rcases Nat.eq_zero_or_pos o.many with h0|h0
  · rw [F.a0 h0,F'.a0 h0]
  · exact part (ra h0).2 (F.ia h0) (sa h0).2 (F'.ia h0) (by rw [<- (ra h0).1,<-(sa h0).1,h])
 have hb:x.b=y.b:=by
  rcases Nat.lt_or_ge o.many 2 with h0|h0
  · rw [F.b0 h0,F'.b0 h0]
  · exact part (rb h0).2 (F.ib h0) (sb h0).2 (F'.ib h0) (by rw [<- (rb h0).1,<-(sb h0).1,h])
 have hname:x.name=y.name:=by rw [<- f2,<-e2,h]
 have hshape:x.shape=y.shape:=by rw [<- f3,<-e3,h]
 have hk:x.k=y.k:=by rw [<- f4,<-e4,h]
 have hn:x.n=y.n:=by rw [<- f5,<-e5,h]
 have hd:x.data=y.data:=by rw [<- f6,<-e6,h]
 obtain ⟨op,A,B,name,s,k,n,d⟩:=x
 obtain ⟨op',A',B',name',s',k',n',d'⟩:=y
 dsimp only at hop ha hb hname hshape hk hn hd
 subst hop ha hb hname hshape hk hn hd
 rfl
theorem cWr {g:Gr}{out:List Nd}{pl:List Int}{N:Nat->Bool}(E:Emb g.nodes out pl N) (hg:aC1 g=true) (hI:Inj pl N g.nodes.length) (h:cXk g.nodes):cXk out:=λi j z hi hj=>by
 obtain ⟨i',x,hx,hi',hN,hm,e⟩:=cGv E hi
 obtain ⟨j',y,hy,hj',hN',hm',e'⟩:=cGv E hj
 have:=cXw E hg hI hx hy hN hN' (e.symm.trans e')
 subst this
 have:=h i' j' x hx hy
 subst this
 omega
def cUn (bd:Nd->List Rat) (l:List Nd):Prop:=∀(j:Nat) (x:Nd),l[j]? =some x->VT x.shape (aAk bd l j)/\∀y∈aAk bd l j,MM y<=10 ^ 400
theorem cU7 {bd:Nd->List Rat}{g:Gr}{out:List Nd}{pl:List Int}{N:Nat->Bool}(E:Emb g.nodes out pl N) (hg:aC1 g=true) (hbd:∀x y:Nd,x.name=y.name->x.shape=y.shape->bd x=bd y) (h:cUn bd g.nodes):cUn bd out:=λm y hy=>by
 obtain ⟨j,x,hx,hj,hN,hm,rfl⟩:=cGv E hy
 rw [cGh E hg hbd j hj hN m hm,(cEq pl x).2.2.1]
 exact h j x hx
theorem cV2 {bd:Nd->List Rat}{g:Gr}(hg:aC1 g=true) (h:cUn bd g.nodes):cUn bd (aAm bd g.nodes g.nodes.length):=λj y hy=>by
 have hj:j<g.nodes.length:=by
  have:=(List.getElem?_eq_some_iff.1 hy).1
  rwa [aBs _ (Nat.le_refl _)] at this
 have hx:g.nodes[j]? =some g.nodes[j]:=List.getElem?_eq_getElem hj
 rw [aCo hx hj (Nat.le_refl _)] at hy
 obtain rfl:=Option.some.inj hy
 rw [aOk hg j hj,aK8]
 exact h j _ hx
theorem cWt {bd:Nd->List Rat}{l:List Nd}(h:cUn bd l) (hs:∀x∈l,x.Sm):∀y∈aAm bd l l.length,y.Sm:=λy hy=>by
 obtain ⟨j,hj⟩:=List.mem_iff_getElem?.1 hy
 have hjl:j<l.length:=by
  have:=(List.getElem?_eq_some_iff.1 hj).1
  rwa [aBs _ (Nat.le_refl _)] at this
 have hx:l[j]? =some l[j]:=List.getElem?_eq_getElem hjl
 rw [aCo hx hjl (Nat.le_refl _)] at hj
 cases hj
 obtain ⟨hv,hm⟩:=h j _ hx
 unfold aFu
 split
 · have h4:=hv.sl
   have h5:=hv.vl
   refine ⟨(show (⟨#[]⟩:ByteArray).size<=1000 by decide),(show (⟨#[]⟩:ByteArray).size<=1000 by decide),(show l[j].shape.length<=1000 by omega),(show ((aAk bd l j).map aAw).length<=1000 by rw [List.length_map];omega),λd hd=>?_⟩
   obtain ⟨z,hz,rfl⟩:=List.mem_map.1 (show d∈(aAk bd l j).map aAw from hd)
   exact bI5 (hm z hz)
 · exact hs _ (List.getElem_mem hjl)
noncomputable def cNy (bd:Nd->List Rat) (g:Gr):Gr×List Int:=cNv (bDr bd g)
noncomputable def cNu (bd:Nd->List Rat) (g:Gr) (keep:List Int):Gr×List Int:=
 ((cEz (cNy bd g).1 (NB (cNy bd g).1 (keep.map (atZ (cNy bd g).2)))).1,(keep.map (atZ (cNy bd g).2)).map (atZ (cEz (cNy bd g).1 (NB (cNy bd g).1 (keep.map (atZ (cNy bd g).2)))).2))
structure Tight (bd:Nd->List Rat) (g h:Gr) (keep out:List Int):Prop where
 ok:aC1 h=true
 good:aG8 bd h.nodes
 cEx:cEx h out=true
 short:h.nodes.length<=g.nodes.length
 diff:cXk h.nodes
 nogo:cX2 h.nodes
 told:cUn bd h.nodes
 bound:∀bs,aCt bs h.nodes=aCt bs g.nodes
 loss:∀q:Nat,g.loss=(q:Nat)->∃r:Nat,h.loss=(r:Nat)/\r<h.nodes.length/\tcE bd h.nodes r=tcE bd g.nodes q/\aAk bd h.nodes r=aAk bd g.nodes q
 len:out.length=keep.length
 keep:∀i (hi:i<keep.length) (q:Nat),keep[i]=(q:Nat)->∃r:Nat,out[i]? =some (r:Nat)/\r<h.nodes.length/\tcE bd h.nodes r=tcE bd g.nodes q
theorem cTk {keep pl:List Int}{i k:Nat}(h:i<keep.length) (hk:keep[i]=(k:Nat)):aAh ((keep.take (i+1)).map (atZ pl))=List.take (aAh ((keep.take i).map (atZ pl))).length (aAh ((keep.take i).map (atZ pl)))++[[.int .i64 (atZ pl (k:Nat))]]:=by
 rw [List.take_length,List.take_succ_eq_append_getElem h,List.map_append]
 show aAh (_++[atZ pl keep[i]])=_
 rw [hk]
 simp [aAh]
theorem cWa {bd:Nd->List Rat}{g:Gr}(hg:aC1 g=true) (hto:cUn bd g.nodes):aC1 (bDr bd g)=true/\aC1 (cNy bd g).1=true/\(bDr bd g).nodes.length=g.nodes.length/\(cNy bd g).1.nodes.length<=g.nodes.length/\(cNy bd g).2.length=g.nodes.length:=by
 have hFl:=aBs (bd:=bd) (l:=g.nodes) g.nodes.length (Nat.le_refl _)
 have hF:aC1 (bDr bd g)=true:=bWp hg λj x hx=>(hto j x hx).1
 have hml:=cN2 (l:=(bDr bd g).nodes) _ (Nat.le_refl _)
 exact ⟨hF,cTl hF,hFl,Nat.le_trans hml.2 (Nat.le_of_eq hFl),hml.1.trans hFl⟩
theorem cT9 {bd:Nd->List Rat}(hbd:∀x y:Nd,x.name=y.name->x.shape=y.shape->bd x=bd y){g:Gr}(hg:aC1 g=true) (hto:cUn bd g.nodes){k:Nat}(h:k<g.nodes.length):
 ∃p:Nat,atZ (cNy bd g).2 (k:Nat)=(p:Nat)/\p<(cNy bd g).1.nodes.length/\tcE bd (cNy bd g).1.nodes p=tcE bd g.nodes k/\aAk bd (cNy bd g).1.nodes p=aAk bd g.nodes k:=by
 obtain ⟨hF,_,hFl,_,_⟩:=cWa hg hto
 have EM:=cOz hF
 have h':k<(bDr bd g).nodes.length:=by rw [hFl];exact h
 have hfold:tcE bd (bDr bd g).nodes k=tcE bd g.nodes k:=by
  show tcE bd (aAm bd g.nodes g.nodes.length) k=_
  rw [tcE,tcE,aGa h,aOk hg k h]
 obtain ⟨p,e1,e2⟩:=EM.at_ k _ (List.getElem?_eq_getElem h') rfl
 obtain ⟨e3,e4⟩:=cHs (bd:=bd) EM hF hbd h' rfl e1
 exact ⟨p,e1,e3,e4.trans hfold,(cGh EM hF hbd k h' rfl p e1).trans (aOk hg k h)⟩
theorem cTn {bd:Nd->List Rat}(hbd:∀x y:Nd,x.name=y.name->x.shape=y.shape->bd x=bd y){g:Gr}(hg:aC1 g=true) (hto:cUn bd g.nodes){keep:List Int}(hk:cEx g keep=true):cEx (cNy bd g).1 (keep.map (atZ (cNy bd g).2))=true:=by
 rw [cEx,Bool.not_eq_true',List.any_eq_false]
 intro x hx
 obtain ⟨y,hy,rfl⟩:=List.mem_map.1 hx
 obtain ⟨k,rfl,hkl⟩:=cE7 hk hy
 obtain ⟨p,e1,e2,_⟩:=cT9 hbd hg hto hkl
 rw [e1]
 simp only [Bool.or_eq_true,decide_eq_true_eq]
 omega
theorem cOb {bd:Nd->List Rat}(hbd:∀x y:Nd,x.name=y.name->x.shape=y.shape->bd x=bd y){g:Gr}(hg:aC1 g=true) (G:aG8 bd g.nodes) (hto:cUn bd g.nodes){keep:List Int}(hk:cEx g keep=true):
 Tight bd g (cNu bd g keep).1 keep (cNu bd g keep).2:=by
 have hvt:∀j x,g.nodes[j]? =some x->VT x.shape (aAk bd g.nodes j):=λj x hx=>(hto j x hx).1
 have hFl:=aBs (bd:=bd) (l:=g.nodes) g.nodes.length (Nat.le_refl _)
 have hF:aC1 (bDr bd g)=true:=bWp hg hvt
 have GF:aG8 bd (bDr bd g).nodes:=bIe hg G hvt
 have EM:=cOz hF
 have hM:aC1 (cNy bd g).1=true:=cTl hF
 have GM:aG8 bd (cNy bd g).1.nodes:=cHj EM hF hbd GF
 have hMl:(cNy bd g).1.nodes.length<=g.nodes.length:=by
  have:=(cN2 (l:=(bDr bd g).nodes) _ (Nat.le_refl _)).2
  exact Nat.le_trans this (by rw [show (bDr bd g).nodes.length=g.nodes.length from hFl];exact Nat.le_refl _)
 have EP:=cG9 hM (keep.map (atZ (cNy bd g).2))
 have hPl:=(cEt (l:=(cNy bd g).1.nodes) (N:=NB (cNy bd g).1 (keep.map (atZ (cNy bd g).2))) (Nat.le_refl _)).2
 have hloss:∀q:Nat,(cNy bd g).1.loss=(q:Nat)->NB (cNy bd g).1 (keep.map (atZ (cNy bd g).2)) q=true:=λq h=>cEv.2 (.loss h.symm)
 have hH:aC1 (cNu bd g keep).1=true:=cHz EP hM hPl hloss
 have hplace:=λ{k:Nat}=>@cT9 bd hbd g hg hto k
 have hkM:=cTn hbd hg hto hk
 have hnext:∀p:Nat,p<(cNy bd g).1.nodes.length->NB (cNy bd g).1 (keep.map (atZ (cNy bd g).2)) p=true->∃r:Nat,atZ (cEz (cNy bd g).1 (NB (cNy bd g).1 (keep.map (atZ (cNy bd g).2)))).2 (p:Nat)=(r:Nat)/\r<(cNu bd g keep).1.nodes.length/\tcE bd (cNu bd g keep).1.nodes r=tcE bd (cNy bd g).1.nodes p/\aAk bd (cNu bd g keep).1.nodes r=aAk bd (cNy bd g).1.nodes p:=λp h hN=>by
  obtain ⟨r,e1,e2⟩:=EP.at_ p _ (List.getElem?_eq_getElem h) hN
  obtain ⟨e3,e4⟩:=cHs (bd:=bd) EP hM hbd h hN e1
  exact ⟨r,e1,e3,e4,cGh EP hM hbd p h hN r e1⟩
 refine ⟨hH,cHj EP hM hbd GM,cHl hkM EP,Nat.le_trans hPl hMl,cWr EP hM (cWh _) cVm,cU5 EP hM (cU5 EM hF (cV1 hg)),cU7 EP hM hbd (cU7 EM hF hbd (cV2 hg hto)),λbs=>?_,λq hq=>?_,by simp [cNu],λi hi q hq=>?_⟩
 · exact (cG1 EP (λj x hx hn=>cEv.2 (.name hx hn)) bs).trans ((cG1 EM (λj x hx hn=>rfl) bs).trans (bDs hg bs))
 · obtain ⟨_,_,q',hq',hql⟩:=aMd hg
   obtain rfl:q'=q:=by omega
   obtain ⟨p,e1,e2,e3,e4⟩:=hplace hql
   have hl:(cNy bd g).1.loss=(p:Nat):=by
    rw [<- e1,<-hq];rfl
   obtain ⟨r,e5,e6,e7,e8⟩:=hnext p e2 (hloss p hl)
   refine ⟨r,?_,e6,e7.trans e3,e8.trans e4⟩
   rw [<- e5,<-hl];rfl
 · obtain ⟨k,e0,hkl⟩:=cE7 hk (List.getElem_mem hi)
   obtain rfl:k=q:=by omega
   obtain ⟨p,e1,e2,e3,e4⟩:=hplace hkl
   obtain ⟨r,e5,e6,e7,e8⟩:=hnext p e2 (cEv.2 (.keep (List.mem_map.2 ⟨_,List.getElem_mem hi,by rw [e0];exact e1⟩)))
   refine ⟨r,?_,e6,e7.trans e3⟩
   show ((keep.map (atZ (cNy bd g).2)).map (atZ (cEz (cNy bd g).1 (NB (cNy bd g).1 (keep.map (atZ (cNy bd g).2)))).2))[i]? =_
   rw [List.getElem?_map,List.getElem?_map,List.getElem?_eq_getElem hi,Option.map_some,Option.map_some,e0,e1]
   exact congrArg some e5
theorem cOc {bd:Nd->List Rat}{g:Gr}(h:cUn bd g.nodes) (hs:∀x∈g.nodes,x.Sm) (keep:List Int):(∀ x∈(bDr bd g).nodes,x.Sm)/\(∀ x∈(cNy bd g).1.nodes,x.Sm)/\∀x∈(cNu bd g keep).1.nodes,x.Sm:=by
 have h1:∀x∈(bDr bd g).nodes,x.Sm:=cWt h hs
 have h2:∀x∈(cNy bd g).1.nodes,x.Sm:=cP1 h1 _
 exact ⟨h1,h2,cGx h2 _⟩
end Go.V
