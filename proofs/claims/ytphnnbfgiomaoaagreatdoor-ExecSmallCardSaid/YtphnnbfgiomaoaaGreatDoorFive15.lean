/-
  Lemmas (part 15) for: the statement.
-/
import Derived.Test.YtphnnbfgiomaoaaGreatDoorFive8
import Derived.Test.YtphnnbfgiomaoaaGreatDoorFive14
import Derived.SizedLaws
set_option linter.all false
namespace Go.Proofs.YtphnnbfgiomaoaaGreatDoor
open Go Go.ChangeShapes Go.WideShapes Go.ChangeAt Go.RowKit Go.V
set_option maxRecDepth 100000
section
variable {H:Type}{enc:TypeId×Value->H}{P:Program}{w:World}
theorem bGe {S:Nat->Prop}{Hh:Hp}:∀{xs:List AV}{vs:List Value}{ys:List AV}{ws:List Value},aAt S Hh w xs vs->aAt S Hh w ys ws->aAt S Hh w (xs++ys) (vs++ws)
 |[],vs,ys,ws,h1,h2=>by simp only [aAt] at h1;subst h1;exact h2
 |x::xs,vs,ys,ws,h1,h2=>by
  simp only [aAt] at h1
  obtain ⟨v,r,rfl,hv,hr⟩:=h1
  simp only [List.cons_append,aAt]
  exact ⟨v,r++ws,rfl,hv,bGe hr h2⟩
def bYd (enc:TypeId×Value->H) (P:Program) (w:World):List Field->Nat->List (Nat×(List AV->Prop))->Prop
 |[],_,Ks=>Ks=[]
 |f::fs,i,Ks=>∃n K Kr,Ks=(n,K)::Kr/\f.offset=i/\P.cellsOf f.type=n/\aSk enc P w f.type n K/\bYd enc P w fs (i+n) Kr
def cBd:List (Nat×(List AV->Prop))->List AV->Prop
 |[],xs=>xs=[]
 |K::Ks,xs=>∃ys zs,xs=ys++zs/\K.2 ys/\cBd Ks zs
theorem aRu:∀(fs:List Field) (i:Nat) (Ks:List (Nat×(List AV->Prop))) (cs:List Value),bYd enc P w fs i Ks->cs.length=i+(Ks.map (·.1)).sum->
 (∀ f∈fs,∃m y,DataW.trod enc P w 0 (λ_=>true) true m f.type ((cs.drop f.offset).take (P.cellsOf f.type))=some y)->∃xs,cBd Ks xs/\Go.V.One (cs.drop i)/\aAt (SW w) H0 w xs (cs.drop i)
 |[],i,Ks,cs,hf,hl,_=>by
  simp only [bYd] at hf
  subst hf
  have:cs.drop i=[]:=List.drop_of_length_le (by simp at hl;omega)
  rw [this]
  exact ⟨[],rfl,by simp [Go.V.One],by simp [aAt]⟩
 |f::fs,i,Ks,cs,hf,hl,ht=>by
  simp only [bYd] at hf
  obtain ⟨n,K,Kr,rfl,h1,h2,h3,h4⟩:=hf
  obtain ⟨xs,a1,a2,a3⟩:=aRu fs (i+n) Kr cs h4 (by simp at hl;omega) (λg hg=>ht g (List.mem_cons_of_mem _ hg))
  obtain ⟨m,y,hy⟩:=ht f List.mem_cons_self
  rw [h1,h2] at hy
  obtain ⟨zs,hk,_,k2,k3⟩:=h3 _ _ _ hy
  have e:cs.drop i=(cs.drop i).take n++cs.drop (i+n):=by rw [<- List.drop_drop,List.take_append_drop]
  rw [e]
  refine ⟨zs++xs,⟨zs,xs,rfl,hk,a1⟩,λu hu=>?_,bGe k3 a3⟩
  rcases List.mem_append.1 hu with hu|hu
  · exact k2 u hu
  · exact a2 u hu
theorem bD6 {t:TypeId}{fs:Array Field}{Ks:List (Nat×(List AV->Prop))}(ht:P.underlying t=some (.struct fs)) (hn:P.cellsOf t=(Ks.map (·.1)).sum) (hf:bYd enc P w fs.toList 0 Ks):
 aSk enc P w t (Ks.map (·.1)).sum (cBd Ks):=λfuel cs x h=>by
 obtain ⟨xs,m,_,_,hl,hlen,hx⟩:=DataW.trod_struct ht h
 obtain ⟨ys,a1,a2,a3⟩:=aRu fs.toList 0 Ks cs hf (by rw [hl,hn];simp) λf hm=>by
  obtain ⟨i,hi,rfl⟩:=List.getElem_of_mem hm
  have:=hx i _ (by rw [Array.getElem?_eq_getElem (by simpa using hi)])
  rw [List.getElem?_eq_getElem (by rw [hlen];simpa using hi)] at this
  exact ⟨m,_,this⟩
 exact ⟨ys,a1,by rw [hl,hn],by simpa using a2,by simpa using a3⟩
end
def cBm (c:List AV):Prop:=∃(s:List Int) (d:List ByteArray),c=[.ro 1 (aAh s),.ro 1 (aCm d)]
theorem bOx {c:List AV}(h:bX5 [cAg,cAf] c):cBm c:=by
 obtain ⟨_,_,rfl,⟨es,rfl,h1⟩,_,_,rfl,⟨es2,rfl,h2⟩,rfl⟩:=h
 obtain ⟨s,rfl⟩:=aJn (f:=λn=>[AV.int .i64 n]) h1
 obtain ⟨d,rfl⟩:=aJn (f:=λs=>[AV.str s]) h2
 exact ⟨s,d,rfl⟩
theorem bVs {c:List AV}(h:cBd [(1,λxs=>∃a,xs=[a]/\isS a),(2,cBm)] c):∃b:Bd,c=b.cells:=by
 obtain ⟨_,_,rfl,⟨_,rfl,n,rfl⟩,_,_,rfl,⟨s,d,rfl⟩,rfl⟩:=h
 exact ⟨⟨n,s,d⟩,rfl⟩
section
variable {H:Type}{enc:TypeId×Value->H}{W:World}
theorem bSn:aSk enc Go.Proofs.Tryz.prog W 40 2 cBm:=
 (aNj Tryz.underlying40 (by kernel_rfl) ⟨cAg,_,rfl,rfl,by kernel_rfl,bUa,cAf,_,rfl,rfl,by kernel_rfl,bUb,rfl⟩).mono λxs h=>bOx h
theorem cAl:aSk enc Go.Proofs.Tryz.prog W 42 3 (λxs=>∃b:Bd,xs=b.cells):=
 (bD6 (Ks:=[(1,λxs=>∃a,xs=[a]/\isS a),(2,cBm)]) Tryz.underlying42 (by kernel_rfl) ⟨_,_,_,rfl,rfl,by kernel_rfl,bSm,_,_,_,rfl,rfl,by kernel_rfl,bSn,rfl⟩).mono λxs h=>bVs h
theorem bN2:aSk enc Go.Proofs.Tryz.prog W 37 1 (λxs=>∃es,xs=[.ro 3 es]/\∀c∈es,∃b:Bd,c=b.cells):=aMf Tryz.underlying37 (by kernel_rfl) (by decide) cAl
theorem bEr {base:Nat}{v0 v1:Value}{d0 d1:DataW H}{p0 p1:List MemPlace}(h0:DataW.Trod enc Go.Proofs.Tryz.prog W 0 (λ_=>true) true 24 v0 d0 p0) (h1:DataW.Trod enc Go.Proofs.Tryz.prog W 0 (λ_=>true) true 37 v1 d1 p1)
 (k0:Value.okWide Go.Proofs.Tryz.prog W .any base 24 v0) (k1:Value.okWide Go.Proofs.Tryz.prog W .any base 37 v1)
 (hz:∀{e:TypeId} {elems spare:List (DataW H)},([d0,d1]++([]:List (DataW H)))[1]? =some (.slice elems spare)->Go.Proofs.Tryz.prog.underlying 37=some (.slice e)->(elems.length+spare.length)*Go.Proofs.Tryz.prog.bytesOf e<=reachBytes):
 ∃(g:Gr) (bs:List Bd),bs.length*64<=140737488351232/\aAt (SW W) H0 W [.agg g.cells,.ro 3 (aA5 bs)] [v0,v1]:=by
 obtain ⟨cs,rfl,_⟩:=okWide_struct Tryz.underlying24 k0
 obtain ⟨a,len,cap,rfl⟩:=okWide_slice Tryz.underlying37 k1
 obtain ⟨f0,h0⟩:=h0
 obtain ⟨f1,h1⟩:=h1
 obtain ⟨xs,⟨g,rfl⟩,_,e2,e3⟩:=bN3 f0 _ _ h0
 obtain ⟨ys,⟨es,rfl,hk⟩,_,_,e4⟩:=bN2 f1 _ _ h1
 obtain ⟨bs,rfl⟩:=aJn (f:=Bd.cells) hk
 have c0:(Value.agg cs).cells.toList=cs.toList:=rfl
 rw [c0] at e2 e3
 have c1:(Value.slice a len cap).cells.toList=[.slice a len cap]:=rfl
 rw [c1] at e4 h1
 simp only [aAt] at e4 ⊢
 obtain ⟨u,r,e5,e6,e7⟩:=e4
 injection e5 with e8 e9
 subst e8
 have hlen:bs.length=len:=by
  simp only [aAi] at e6
  obtain ⟨A,c,e,_⟩:=e6
  injection e with _ e _
  rw [List.length_map] at e;omega
 refine ⟨g,bs,?_,_,_,rfl,?_,_,_,rfl,e6,rfl⟩
 · rcases DataW.trod_slice Tryz.underlying37 h1 with ⟨hc,_⟩|⟨a',len',cap',elems,rest,m,_,hc,hx,_,hl,hm,hlen2,hel,_⟩
   · injection hc with hc _
     injection hc with _ hc _
     omega
   · injection hc with hc _
     injection hc with _ hc _
     subst hc
     simp only [Prod.mk.injEq] at hx
     have hz:=hz (e:=42) (by rw [hx.1];rfl) Tryz.underlying37
     rw [show Go.Proofs.Tryz.prog.bytesOf 42=64 by kernel_rfl,show reachBytes=140737488351232 from rfl,List.length_map,hlen2] at hz
     rw [hlen]
     exact Nat.le_trans (Nat.mul_le_mul_right 64 (Nat.le_add_right _ _)) hz
 · simp only [aAi]
   exact ⟨cs.toList,by simp,e2,e3⟩
end
section
variable {H:Type}{enc:TypeId×Value->H}{W:World}
theorem cAi {t e:TypeId}{f:Nat}{a:Option Addr}{len cap:Nat}{d:DataW H}{p:List MemPlace}(ht:Go.Proofs.Tryz.prog.underlying t=some (.slice e)) (h:DataW.trod enc Go.Proofs.Tryz.prog W 0 (λ_=>true) true f t [.slice a len cap]=some (d,p))
 (hz:∀n∈d.weights Go.Proofs.Tryz.prog t,n<=reachBytes):len*Go.Proofs.Tryz.prog.bytesOf e<=reachBytes:=by
 rcases DataW.trod_slice ht h with ⟨hc,_⟩|⟨a',len',cap',elems,rest,m,_,hc,hx,_,hl,hm,hlen2,hel,_⟩
 · injection hc with hc _
   injection hc with _ hc _
   rw [hc,Nat.zero_mul];exact Nat.zero_le _
 · injection hc with hc _
   injection hc with _ hc _
   subst hc
   simp only [Prod.mk.injEq] at hx
   have hz:=hz ((elems.length+rest.length)*Go.Proofs.Tryz.prog.bytesOf e) (by rw [hx.1];simp [DataW.weights,ht])
   rw [hlen2] at hz
   exact Nat.le_trans (Nat.mul_le_mul_right _ (Nat.le_add_right _ _)) hz
end
end Go.Proofs.YtphnnbfgiomaoaaGreatDoor
