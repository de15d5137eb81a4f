/-
  Lemmas (part 2) for: the statement.
-/
import Derived.Test.YtphnnbfgiomaoaaGreatDoorFive1
import Derived.Still
import Derived.Laws.Strings
import Derived.Test.YtphnnbfgiomaoaaGreatDoorProg
set_option linter.all false
namespace Go.V
open Go.RowKit
variable {P:Program}{gl:Gl}{T:Tab}{B:Base}
structure Rc where
 ran:Bool
 v:AV
 d:List (Nat×Ob)
 rd:List Nat
 n:Nat
 sf:Option (Nat×Sft)
 deriving Inhabited
def Rc.note (r:Rc):Note:=⟨r.rd,r.d.map (·.1),r.sf⟩
def ap (o:Oper) (r:Rc) (st:St):St:=st.upd o.dst r.v r.d
def bJo (P:Program) (gl:Gl) (T:Tab) (ops:Array Oper) (o:Oper) (r:Rc) (st:St):Prop:=
 aN4 ops o st=some r.ran/\match r.ran with
 |true=>(cN5 T (st.ev gl) o.op r.v=r.sf/\cOl T (st.ev gl) (aAd st.h) o.op r.v=r.rd)/\vop P gl T true o.op (st.ev gl) (aAd st.h) r.n (λv d=>v=r.v/\d=r.d)/\∀q ob,(q,ob)∈r.d->r.n<=q->aAd st.h q= .dead
 |false=>r.v= .u/\r.d=[]/\r.rd=[]/\r.sf=none
theorem bWr (st:St) (d:Option Tmp) (v:AV) (t:Nat):(st.put d v).get t=if d=some t then v else st.get t:=by
 cases d with
 |none=>simp [St.put]
 |some d=>
  show lk .j ((d,v)::st.t) t=_
  unfold lk
  cases hb:Nat.beq d t with
  |true=>simp [Nat.eq_of_beq_eq_true hb]
  |false=>simp [Nat.ne_of_beq_eq_false hb,St.get]
theorem aZw (o:Oper) (r:Rc) (st:St) (t:Nat):(ap o r st).get t=if o.dst=some t then r.v else st.get t:=by
 unfold ap St.upd
 rw [bWr];rfl
theorem bVq (o:Oper) (r:Rc) (st:St):(ap o r st).h=aDf st.h r.d:=by
 unfold ap St.upd;cases o.dst<;>rfl
theorem aE9 {p:Nat}:∀(d:List (Nat×Ob)) (h:List Ob),p ∉ d.map (·.1)->aAd (aDf h d) p=aAd h p
 |[],h,_=>rfl
 |(q,o)::d,h,hp=>by
  simp only [List.map_cons,List.mem_cons,not_or] at hp
  simp only [aDf]
  rw [aE9 d _ hp.2,aBx,if_neg hp.1]
theorem aNm:∀(h:List Ob) (p q:Nat) (x y:Ob),p≠q->aGr (aGr h p x) q y=aGr (aGr h q y) p x
 |[],0,0,x,y,hn=>absurd rfl hn
 |[],0,q+1,x,y,hn=>rfl
 |[],p+1,0,x,y,hn=>rfl
 |[],p+1,q+1,x,y,hn=>by simp only [aGr];rw [aNm [] p q x y (by omega)]
 |o::h,0,0,x,y,hn=>absurd rfl hn
 |o::h,0,q+1,x,y,hn=>rfl
 |o::h,p+1,0,x,y,hn=>rfl
 |o::h,p+1,q+1,x,y,hn=>by simp only [aGr];rw [aNm h p q x y (by omega)]
theorem aN2:∀(d:List (Nat×Ob)) (h:List Ob) (p:Nat) (x:Ob),p ∉ d.map (·.1)->aDf (aGr h p x) d=aGr (aDf h d) p x
 |[],h,p,x,_=>rfl
 |(q,o)::d,h,p,x,hp=>by
  simp only [List.map_cons,List.mem_cons,not_or] at hp
  simp only [aDf]
  rw [aNm h p q x o hp.1,aN2 d _ p x hp.2]
theorem aR5:∀(d d':List (Nat×Ob)) (h:List Ob),(∀ p∈d.map (·.1),p ∉ d'.map (·.1))->aDf (aDf h d) d'=aDf (aDf h d') d
 |[],d',h,_=>rfl
 |(p,o)::d,d',h,hp=>by
  simp only [aDf]
  rw [aR5 d d' _ (λq hq=>hp q (by simp at hq ⊢;exact .inr hq)),aN2 d' h p o (hp p (by simp))]
theorem bNt {ops:Array Oper}{o:Oper}{t:Tmp}(h:Operand.tmp t∈o.op.operands.toList):t∈o.looksAt ops:=
 List.mem_append_left _ (List.mem_filterMap.2 ⟨.tmp t,h,rfl⟩)
theorem cV6 (G:Nat->Ob) (p:Nat):aLc G p=cXb (G p):=rfl
theorem cWy {o:Op}{E:Operand->AV}{G G':Nat->Ob}{n p:Nat}{s:Sft}{v:AV}{d:List (Nat×Ob)}(hs:cN5 T E o v=some (p,s)) (hG:G p=G' p\/cOp s (G' p))
 (h:vop P gl T true o E G n λv' d'=>v'=v/\d'=d):vop P gl T true o E G' n λv' d'=>v'=v/\d'=d:=by
 cases o with
 |nilCheck x=>
  simp only [cN5,vop] at hs h ⊢
  cases hx:E x<;>simp only [hx] at hs h ⊢ <;>first|exact h|cases hs|skip
  rw [aBy] at h ⊢
  refine ⟨?_,h.2⟩
  rcases hG with e|e
  · rw [cV6,<-e];exact h.1
  · exact e
 |fieldAddr t x f=>
  simp only [cN5,vop] at hs h ⊢
  cases hx:E x<;>simp only [hx] at hs h ⊢ <;>first|exact h|cases hs|skip
  split at h<;>first|exact h.elim|skip
  split at h<;>first|exact h.elim|skip
  rw [aBy] at h ⊢
  refine ⟨h.1,?_⟩
  have h:=h.2
  rw [aBy] at h ⊢
  refine ⟨?_,h.2⟩
  rcases hG with e|e
  · rw [cV6,<-e];exact h.1
  · exact e
 |load t x=>
  simp only [cN5,vop] at hs h ⊢
  cases hx:E x<;>simp only [hx] at hs h ⊢ <;>first|exact h|cases hs|skip
  simp only [aXr] at h ⊢
  rcases hG with e|e
  · rw [<- e];exact h
  · generalize G' _=ob at e ⊢
    cases ob<;>simp only [cOp] at e
    dsimp only
    have hd:d=[]:=by
     split at h<;>first|exact h.elim|skip
     obtain ⟨_,h1,_⟩:=bDw _ _ _ h
     exact h1.2.symm
    obtain ⟨v',rfl,h2⟩:=bDw _ _ _ e
    exact h2 _ ⟨rfl,hd.symm⟩
 |_=>simp [cN5] at hs
theorem cXh {E E':Operand->AV}(o:Op) (h:∀x∈o.operands.toList,E x=E' x) (v:AV):cN5 T E o v=cN5 T E' o v:=by
 cases o with
 |nilCheck x=>simp only [cN5];rw [h x (by simp [Op.operands])]
 |fieldAddr t x f=>simp only [cN5];rw [h x (by simp [Op.operands])]
 |load t x=>simp only [cN5];rw [h x (by simp [Op.operands])]
 |_=>rfl
theorem aKb {ops:Array Oper}{o:Oper}{r:Rc}{st st':St}(h1:∀t∈o.looksAt ops,st.get t=st'.get t) (h2:∀p∈r.rd,aAd st.h p=aAd st'.h p)
 (h2s:∀p s,r.sf=some (p,s)->aAd st.h p=aAd st'.h p\/cOp s (aAd st'.h p))
 (h3:∀q∈r.d.map (·.1),aAd st.h q=aAd st'.h q) (h:bJo P gl T ops o r st):bJo P gl T ops o r st':=by
 obtain ⟨hg,h⟩:=h
 have hg':aN4 ops o st'=some r.ran:=by
  rw [<- hg]
  unfold aN4
  cases hgd:o.guard with
  |none=>rfl
  |some gw=>
   obtain ⟨i,b⟩:=gw
   simp only
   cases hd:(ops[i]?).bind (·.dst) with
   |none=>rfl
   |some d=>dsimp only;rw [h1 d (List.mem_append_right _ (by simp [hgd,hd]))]
 refine ⟨hg',?_⟩
 have hE:∀x∈o.op.operands.toList,st.ev gl x=st'.ev gl x:=λx hx=>by
  cases x with
  |tmp t=>exact h1 t (bNt hx)
  |_=>rfl
 cases hr:r.ran with
 |false=>rw [hr] at h;exact h
 |true=>
  rw [hr] at h
  simp only at h ⊢
  obtain ⟨⟨k0,k1⟩,k2,k3⟩:=h
  have k0':cN5 T (st'.ev gl) o.op r.v=r.sf:=by rw [<- cXh o.op hE];exact k0
  have k3':∀q ob,(q,ob)∈r.d->r.n<=q->aAd st'.h q= .dead:=λq ob hq hn=>by rw [<- h3 q (List.mem_map_of_mem hq)];exact k3 q ob hq hn
  cases hsf:r.sf with
  |none=>
   rw [hsf] at k0 k0'
   simp only [cOl,k0] at k1
   have hA:∀p∈aIt (st.ev gl) (aAd st.h) o.op,aAd st.h p=aAd st'.h p:=λp hp=>h2 p (by rw [<- k1];exact hp)
   refine ⟨⟨k0',?_⟩,?_,k3'⟩
   · simp only [cOl,k0']
     rw [<- bS0 o.op hE,(aRx (P:=P) (gl:=gl) (T:=T) (n:=0) (K:=λ_ _=>True) (dr:=true) o.op hA).1,k1]
   · rw [<- cA8 o.op hE,<-(aRx o.op hA).2];exact k2
  |some ps=>
   obtain ⟨p,s⟩:=ps
   rw [hsf] at k0 k0'
   refine ⟨⟨k0',?_⟩,?_,k3'⟩
   · simp only [cOl,k0']
     simp only [cOl,k0] at k1
     exact k1
   · rw [<- cA8 o.op hE]
     exact cWy k0 (h2s p s hsf) k2
def aXz (st st':St):Prop:=st.h=st'.h/\∀t,st.get t=st'.get t
theorem aXz.symm {st st':St}(h:aXz st st'):aXz st' st:=⟨h.1.symm,λt=>(h.2 t).symm⟩
theorem aXz.trans {st st' st'':St}(h:aXz st st') (h':aXz st' st''):aXz st st'':=⟨h.1.trans h'.1,λt=>(h.2 t).trans (h'.2 t)⟩
theorem aXz.ap {st st':St}(h:aXz st st') (o:Oper) (r:Rc):aXz (ap o r st) (ap o r st'):=
 ⟨by rw [bVq,bVq,h.1],λt=>by rw [aZw,aZw,h.2]⟩
theorem aXz.good {ops:Array Oper}{o:Oper}{r:Rc}{st st':St}(h:aXz st st') (hg:bJo P gl T ops o r st):bJo P gl T ops o r st':=
 aKb (λt _=>h.2 t) (λp _=>by rw [h.1]) (λp s _=>.inl (by rw [h.1])) (λq _=>by rw [h.1]) hg
def bX6 (r r':Rc):Prop:=(∀ p∈r.d.map (·.1),p ∉ r'.rd/\p ∉ r'.d.map (·.1)/\p ∉ sfp r'.sf)/\(∀ p∈r.rd,p ∉ r'.d.map (·.1))/\∀p s,r.sf=some (p,s)->∀ob,(p,ob)∈r'.d->cOp s ob
theorem cOd {p:Nat}:∀(d:List (Nat×Ob)) (h:List Ob),p∈d.map (·.1)->(p,aAd (aDf h d) p)∈d
 |[],h,hp=>by simp at hp
 |(q,o)::d,h,hp=>by
  simp only [aDf]
  by_cases hd:p∈d.map (·.1)
  · exact List.mem_cons_of_mem _ (cOd d _ hd)
  · have hq:p=q:=by
     simp only [List.map_cons,List.mem_cons] at hp
     rcases hp with h|h
     · exact h
     · exact absurd h hd
    subst hq
    rw [aE9 d _ hd,aBx,if_pos rfl]
    exact List.mem_cons_self
section
variable {ops:Array Oper}{o o':Oper}{r r':Rc}{st:St}
theorem bWt (ha:o.apart ops o'=true) (hd:bX6 r r') (h:bJo P gl T ops o' r' (ap o r st)):bJo P gl T ops o' r' st:=by
 obtain ⟨a1,a2,a3⟩:=Oper.apart_spec ha
 refine aKb (λt ht=>?_) (λp hp=>?_) (λp s hp=>?_) (λp hp=>?_) h
 · rw [aZw,if_neg];intro e;exact a1 t e ht
 · rw [bVq,aE9];intro hm;exact (hd.1 p hm).1 hp
 · left;rw [bVq,aE9];intro hm;exact (hd.1 p hm).2.2 (by rw [hp];simp [sfp])
 · rw [bVq,aE9];intro hm;exact (hd.1 p hm).2.1 hp
theorem bSd (ha:o.apart ops o'=true) (hd:bX6 r r') (h:bJo P gl T ops o r st):bJo P gl T ops o r (ap o' r' st):=by
 obtain ⟨a1,a2,a3⟩:=Oper.apart_spec ha
 refine aKb (λt ht=>?_) (λp hp=>?_) (λp s hp=>?_) (λp hp=>?_) h
 · rw [aZw,if_neg];intro e;exact a3 t e ht
 · rw [bVq,aE9];exact hd.2.1 p hp
 · rw [bVq]
   by_cases hm:p∈r'.d.map (·.1)
   · exact .inr (hd.2.2 p s hp _ (cOd _ _ hm))
   · exact .inl (aE9 _ _ hm).symm
 · rw [bVq,aE9];exact (hd.1 p hp).2.1
theorem bVp (ha:o.apart ops o'=true) (hd:bX6 r r'):aXz (ap o' r' (ap o r st)) (ap o r (ap o' r' st)):=by
 obtain ⟨a1,a2,a3⟩:=Oper.apart_spec ha
 refine ⟨by simp only [bVq];exact aR5 _ _ _ λp hp=>(hd.1 p hp).2.1,λt=>?_⟩
 simp only [aZw]
 by_cases e1:o.dst=some t
 · have:o'.dst≠some t:=a2 t e1
   simp [e1,this]
 · simp [e1]
end
def bVo (P:Program) (gl:Gl) (T:Tab) (ops:Array Oper) (R:Nat->Rc) (stF:St):Nat->Array Bool->St->Prop
 |0,listed,st=>Region.ready .any ops listed=[]/\aXz st stF
 |fuel+1,listed,st=>(Region.ready .any ops listed=[]->aXz st stF)/\
   ∀i∈Region.ready .any ops listed,∀o,ops[i]? =some o->bJo P gl T ops o (R i) st/\bVo P gl T ops R stF fuel (listed.setIfInBounds i true) (ap o (R i) st)
section
variable {ops:Array Oper}{R:Nat->Rc}{stF:St}
theorem aYy:∀(fuel:Nat) (listed:Array Bool) (st st':St),aXz st st'->bVo P gl T ops R stF fuel listed st->bVo P gl T ops R stF fuel listed st'
 |0,listed,st,st',h,H=>⟨H.1,h.symm.trans H.2⟩
 |fuel+1,listed,st,st',h,H=>⟨λe=>h.symm.trans (H.1 e),λi hi o ho=>⟨h.good (H.2 i hi o ho).1,aYy fuel _ _ _ (h.ap o (R i)) (H.2 i hi o ho).2⟩⟩
def WOK (ops:Array Oper) (W:Nat->Nat->Bool):Prop:=∀j o,ops[j]? =some o->∀k,W j k=true->∃e∈o.after,Region.binds .any e=true/\(e.on=k\/W e.on k=true)
def aXx (W:Nat->Nat->Bool) (listed:Array Bool):Prop:=∀k,listed.getD k false=true->∀i,W k i=true->listed.getD i false=true
theorem aTz {W:Nat->Nat->Bool}(hW:WOK ops W){listed:Array Bool}(hc:aXx W listed){j:Nat}(hj:j∈Region.ready .any ops listed):aXx W (listed.setIfInBounds j true):=by
 obtain ⟨_,o,ho,hall⟩:=mem_ready.1 hj
 intro k hk i hi
 by_cases hkj:k=j
 · subst hkj
   obtain ⟨e,he,hb,hh⟩:=hW k o ho i hi
   have h1:=hall e he hb
   rcases hh with rfl|hh
   · exact getD_set_true h1
   · exact getD_set_true (hc _ h1 _ hh)
 · rw [getD_set_ne false (Ne.symm hkj)] at hk
   exact getD_set_true (hc k hk i hi)
theorem bN1 {W:Nat->Nat->Bool}(hW:WOK ops W){listed:Array Bool}(hc:aXx W listed){i j:Nat}(hi:i∈Region.ready .any ops listed) (hj:j∈Region.ready .any ops listed):W j i=false:=by
 cases hw:W j i with
 |false=>rfl
 |true=>
  obtain ⟨_,o,ho,hall⟩:=mem_ready.1 hj
  obtain ⟨e,he,hb,hh⟩:=hW j o ho i hw
  have h1:=hall e he hb
  have h2:listed.getD i false=true:=by
   rcases hh with rfl|hh
   · exact h1
   · exact hc _ h1 _ hh
  have h0:=(mem_ready.1 hi).1
  rcases Nat.lt_or_ge i listed.size with h'|h'
  · simp [h'] at h0 h2;rw [h0] at h2;cases h2
  · simp [Array.getElem?_eq_none h'] at h2
theorem bH1 {W:Nat->Nat->Bool}(hW:WOK ops W){i:Nat}{oi:Oper}(hi:ops[i]? =some oi):
 ∀(fuel:Nat) (listed:Array Bool) (st:St),aXx W listed->
  (∀ j oj,ops[j]? =some oj->j≠i->listed.getD j true=false->(∀ e∈oj.after,Region.binds .any e=true->e.on≠i)->oi.apart ops oj=true)->
  (∀ j oj,ops[j]? =some oj->j≠i->listed.getD j true=false->W j i=false->bX6 (R i) (R j))->
  i∈Region.ready .any ops listed->bJo P gl T ops oi (R i) st->
  bVo P gl T ops R stF fuel (listed.setIfInBounds i true) (ap oi (R i) st)->bVo P gl T ops R stF (fuel+1) listed st:=by
 intro fuel
 induction fuel with
 |zero=>
  intro listed st hc hap hdj hr hg H
  refine ⟨λh=>(by rw [h] at hr;cases hr),λj hj oj hoj=>?_⟩
  by_cases hji:j=i
  · subst hji
    rw [hi] at hoj;cases hoj
    exact ⟨hg,H⟩
  · have:=ready_mono hj hji
    rw [H.1] at this
    cases this
 |succ fuel ih=>
  intro listed st hc hap hdj hr hg H
  refine ⟨λh=>(by rw [h] at hr;cases hr),λj hj oj hoj=>?_⟩
  by_cases hji:j=i
  · subst hji
    rw [hi] at hoj;cases hoj
    exact ⟨hg,H⟩
  · have hjun:=(mem_ready.1 hj).1
    have h1:=H.2 j (ready_mono hj hji) oj hoj
    have hnot:∀e∈oj.after,Region.binds .any e=true->e.on≠i:=λe he hb heq=>by
     obtain ⟨_,o,ho,hall⟩:=mem_ready.1 hj
     rw [hoj] at ho;cases ho
     have h1:=hall e he hb
     have h0:=(mem_ready.1 hr).1
     rw [heq] at h1
     rcases Nat.lt_or_ge i listed.size with h'|h'
     · simp [h'] at h0 h1;rw [h0] at h1;cases h1
     · simp [Array.getElem?_eq_none h'] at h1
    have ha:=hap j oj hoj hji hjun hnot
    have hd:=hdj j oj hoj hji hjun (bN1 hW hc hr hj)
    have unl:∀k,(listed.setIfInBounds j true).getD k true=false->listed.getD k true=false:=λk hk=>by
     by_cases hjk:j=k
     · subst hjk;exact hjun
     · rw [getD_set_ne true hjk] at hk;exact hk
    refine ⟨bWt ha hd h1.1,ih (listed.setIfInBounds j true) _ (aTz hW hc hj) (λk ok hk hki hun hno=>hap k ok hk hki (unl k hun) hno) (λk ok hk hki hun hw=>hdj k ok hk hki (unl k hun) hw)
     (ready_mono hr (Ne.symm hji)) (bSd ha hd hg) ?_⟩
    rw [Array.setIfInBounds_comm _ _ hji]
    exact aYy _ _ _ _ (bVp ha hd) h1.2
def cBg (P:Program) (gl:Gl) (T:Tab) (ops:Array Oper) (bs:List Nat) (stF:St):List Oper->List Rc->St->List Rc->Prop
 |[],_,st,_=>st=stF
 |_::_,_,_,[]=>False
 |o::l,rs0,st,r::rs=>bJo P gl T ops o r st/\(clear (bs.getD rs0.length 0) r.note 0 (rs0.map Rc.note)=true/\cOr (bs.getD rs0.length 0) r.d True 0 (rs0.map Rc.note))/\cBg P gl T ops bs stF l (rs0++[r]) (ap o r st) rs
theorem aZn (b:Nat):∀(i:Nat) (ns:List Note),clear b ⟨[],[],none⟩ i ns=true
 |_,[]=>rfl
 |i,x::ns=>by
  have hd:∀l:List Nat,bJm l []=true:=λl=>by
   induction l with
   |nil=>rfl
   |cons p r ih=>simp [bJm,ih]
  simp [clear,hd,sfp,aZn b (i+1) ns]
theorem cOj {p:Nat}{s:Sft}{K:Prop}:∀(d:List (Nat×Ob)),cUc p s K d↔(∀ ob,(p,ob)∈d->cOp s ob)/\K
 |[]=>by simp [cUc]
 |(q,ob)::d=>by
  have ih:=cOj (p:=p) (s:=s) (K:=K) d
  unfold cUc
  cases hq:Nat.beq q p with
  |false=>
   have hne:q≠p:=Nat.ne_of_beq_eq_false hq
   dsimp only
   rw [ih]
   constructor
   · rintro ⟨h1,h2⟩
     refine ⟨λob' hm=>?_,h2⟩
     rcases List.mem_cons.1 hm with e|hm
     · exact absurd (Prod.mk.inj e).1.symm hne
     · exact h1 _ hm
   · rintro ⟨h1,h2⟩
     exact ⟨λob' hm=>h1 _ (List.mem_cons_of_mem _ hm),h2⟩
  |true=>
   obtain rfl:=Nat.eq_of_beq_eq_true hq
   have key:cOp s ob/\cUc q s K d↔(∀ ob',(q,ob')∈(q,ob)::d->cOp s ob')/\K:=by
    rw [ih]
    constructor
    · rintro ⟨h0,h1,h2⟩
      refine ⟨λob' hm=>?_,h2⟩
      rcases List.mem_cons.1 hm with e|hm
      · rw [(Prod.mk.inj e).2];exact h0
      · exact h1 _ hm
    · rintro ⟨h1,h2⟩
      exact ⟨h1 _ List.mem_cons_self,λob' hm=>h1 _ (List.mem_cons_of_mem _ hm),h2⟩
   rw [<- key]
   cases s with
   |live=>dsimp only;rw [aBy];rfl
   |ld ti c v=>
    dsimp only
    cases ob with
    |box t cs=>
     dsimp only [cOp]
     constructor
     · intro h
       obtain ⟨v',⟨h1,h2⟩,h3⟩:=bDw _ _ _ h
       exact ⟨h3 _ h1,h2⟩
     · rintro ⟨h1,h2⟩
       obtain ⟨v',h4,h3⟩:=bDw _ _ _ h1
       exact h3 _ ⟨h4,h2⟩
    |_=>simp [cOp]
theorem cRu {b:Nat}{d:List (Nat×Ob)}{K:Prop}:∀(i:Nat) (ns:List Note),cOr b d K i ns↔cOr b d True i ns/\K
 |_,[]=>by simp [cOr]
 |i,x::r=>by
  have ih:=cRu (b:=b) (d:=d) (K:=K) (i+1) r
  unfold cOr
  cases b.testBit i with
  |true=>exact ih
  |false=>
   dsimp only
   cases x.sf with
   |none=>exact ih
   |some ps=>
    obtain ⟨p,s⟩:=ps
    dsimp only
    rw [cOj,cOj,ih,and_assoc]
theorem cUe {b:Nat}:∀(i:Nat) (ns:List Note),cOr b [] True i ns
 |_,[]=>trivial
 |i,x::r=>by
  have ih:=cUe (b:=b) (i+1) r
  unfold cOr
  cases b.testBit i with
  |true=>exact ih
  |false=>
   dsimp only
   cases x.sf with
   |none=>exact ih
   |some ps=>exact ih
theorem cUd {b:Nat}{d:List (Nat×Ob)}:∀{i:Nat}{ns:List Note},cOr b d True i ns->∀{t:Nat}{x:Note},ns[t]? =some x->b.testBit (i+t)=false->∀p s,x.sf=some (p,s)->∀ob,(p,ob)∈d->cOp s ob
 |i,[],_,t,x,hx,_=>by simp at hx
 |i,y::ns,h,t,x,hx,hb=>by
  unfold cOr at h
  have rest:cOr b d True (i+1) ns:=by
   cases hbi:b.testBit i with
   |true=>rw [hbi] at h;exact h
   |false=>
    rw [hbi] at h
    dsimp only at h
    cases hs:y.sf with
    |none=>rw [hs] at h;exact h
    |some ps=>rw [hs] at h;exact ((cOj _).1 h).2
  cases t with
  |zero=>
   simp at hx;subst hx
   rw [Nat.add_zero] at hb
   rw [hb] at h
   intro p s hs ob hm
   dsimp only at h
   rw [hs] at h
   exact ((cOj _).1 h).1 ob hm
  |succ t=>exact cUd rest (by simpa using hx) (by rw [<- hb];congr 1;omega)
theorem aSa (ops:Array Oper) (bs:List Nat) (K:St->Prop):∀(l:List Oper) (rs0:List Rc) (st:St),bEj P gl T ops bs K l (rs0.map Rc.note) st->
 ∃rs stF,rs.length=l.length/\K stF/\cBg P gl T ops bs stF l rs0 st rs
 |[],rs0,st,h=>⟨[],st,rfl,h,rfl⟩
 |o::l,rs0,st,h=>by
  simp only [bEj] at h
  rcases bA1 h with ⟨hg,h⟩|⟨hg,h⟩
  · obtain ⟨v,d,h1,h2⟩:=bO6 _ h
    rw [aBy,cRu,List.length_map] at h1
    obtain ⟨hc,hc2,h1⟩:=h1
    have hn:rs0.map Rc.note++[⟨cOl T (st.ev gl) (aAd st.h) o.op v,d.map (·.1),cN5 T (st.ev gl) o.op v⟩]=(rs0++[(⟨true,v,d,cOl T (st.ev gl) (aAd st.h) o.op v,st.h.length,cN5 T (st.ev gl) o.op v⟩:Rc)]).map Rc.note:=by simp [Rc.note]
    rw [hn] at h1
    obtain ⟨rs,stF,k1,k2,k3⟩:=aSa ops bs K l _ _ h1
    exact ⟨⟨true,v,d,cOl T (st.ev gl) (aAd st.h) o.op v,st.h.length,cN5 T (st.ev gl) o.op v⟩::rs,stF,by simp [k1],k2,⟨⟨hg,⟨rfl,rfl⟩,h2 _ ⟨rfl,rfl⟩,λq ob _ hq=>aOl _ _ hq⟩,⟨hc,hc2⟩,k3⟩⟩
  · have hn:rs0.map Rc.note++[⟨[],[],none⟩]=(rs0++[(⟨false,.u,[],[],0,none⟩:Rc)]).map Rc.note:=by simp [Rc.note]
    rw [hn] at h
    obtain ⟨rs,stF,k1,k2,k3⟩:=aSa ops bs K l _ _ h
    exact ⟨⟨false,.u,[],[],0,none⟩::rs,stF,by simp [k1],k2,⟨⟨hg,rfl,rfl,rfl,rfl⟩,⟨aZn _ _ _,cUe _ _⟩,k3⟩⟩
theorem aQb:∀{a b:List Nat},bJm a b=true->∀p∈a,p ∉ b
 |[],_,_,p,hp=>by simp at hp
 |q::a,b,h,p,hp=>by
  simp only [bJm,Bool.and_eq_true,Bool.not_eq_true'] at h
  simp only [List.mem_cons] at hp
  rcases hp with rfl|hp
  · intro hm
    rw [List.any_eq_false] at h
    exact h.1 p hm (by simp)
  · exact aQb h.2 p hp
theorem aZm {b:Nat}{m:Note}:∀{i:Nat}{ns:List Note},clear b m i ns=true->∀{t:Nat}{x:Note},ns[t]? =some x->b.testBit (i+t)=false->bJm x.wr m.rd=true/\bJm x.wr m.wr=true/\bJm x.rd m.wr=true/\bJm x.wr (sfp m.sf)=true
 |i,[],_,t,x,hx,_=>by simp at hx
 |i,y::ns,h,t,x,hx,hb=>by
  simp only [clear,Bool.and_eq_true,Bool.or_eq_true] at h
  cases t with
  |zero=>
   simp at hx;subst hx
   rcases h.1 with h|h
   · rw [Nat.add_zero] at hb;rw [hb] at h;cases h
   · exact ⟨h.1.1.1,h.1.1.2,h.1.2,h.2⟩
  |succ t=>exact aZm h.2 (by simpa using hx) (by rw [<- hb];congr 1;omega)
theorem bAu {bs:List Nat}:∀(l:List Oper) (rs0:List Rc) (st:St) (rs:List Rc),cBg P gl T ops bs stF l rs0 st rs->rs.length=l.length->∀j r,rs[j]? =some r->∀i x,(rs0++rs)[i]? =some x->i<rs0.length+j->
 (bs.getD (rs0.length+j) 0).testBit i=false->bX6 x r
 |[],rs0,st,rs,_,hl,j,r,hj,_,_,_,_,_=>by
  have:rs=[]:=List.eq_nil_of_length_eq_zero hl
  subst this;simp at hj
 |o::l,rs0,st,[],h,_,_,_,hj,_,_,_,_,_=>by simp at hj
 |o::l,rs0,st,r0::rs,h,hl,j,r,hj,i,x,hx,hi,hb=>by
  obtain ⟨_,hc,h⟩:=h
  cases j with
  |zero=>
   simp at hj;subst hj
   have hx':(rs0.map Rc.note)[i]? =some x.note:=by
    rw [List.getElem?_append_left (by omega)] at hx
    rw [List.getElem?_map,hx];rfl
   obtain ⟨d1,d2,d3,d4⟩:=aZm hc.1 hx' (by simpa using hb)
   exact ⟨λp hp=>⟨aQb d1 p hp,aQb d2 p hp,aQb d4 p hp⟩,λp hp=>aQb d3 p hp,cUd hc.2 hx' (by simpa using hb)⟩
  |succ j=>
   refine bAu l (rs0++[r0]) _ rs h (by simpa using hl) j r (by simpa using hj) i x (by simpa using hx) (by simp;omega) ?_
   rw [<- hb];congr 2;simp;omega
theorem bFd (bs:List Nat) (k:Nat):∀(l:List Edge) (s:Nat),(l.foldl (λs e=>match Region.binds .any e with|true=>s ||| 2 ^ e.on ||| bs.getD e.on 0|false=>s) s).testBit k=true->
 s.testBit k=true\/∃e∈l,Region.binds .any e=true/\(e.on=k\/(bs.getD e.on 0).testBit k=true)
 |[],s,h=>.inl h
 |e::l,s,h=>by
  simp only [List.foldl_cons] at h
  rcases bFd bs k l _ h with h|⟨e',he,h⟩
  · cases hb:Region.binds .any e with
    |false=>rw [hb] at h;exact .inl h
    |true=>
     rw [hb] at h
     simp only [Nat.testBit_or,Bool.or_eq_true,Nat.testBit_two_pow,decide_eq_true_eq] at h
     rcases h with (h|h)|h
     · exact .inl h
     · exact .inr ⟨e,by simp,hb,.inl h⟩
     · exact .inr ⟨e,by simp,hb,.inr h⟩
  · exact .inr ⟨e',by simp [he],h⟩
theorem bZc {bs:List Nat}(h:bRb ops bs=true):WOK ops λj k=>(bs.getD j 0).testBit k:=by
 intro j o ho k hk
 unfold bRb at h
 rw [List.all_eq_true] at h
 have hj:=h j (List.mem_range.2 (Array.getElem?_eq_some_iff.1 ho).1)
 rw [ho] at hj
 simp only at hj
 have:=Nat.eq_of_beq_eq_true hj
 dsimp only at hk
 rw [this] at hk
 rcases bFd bs k _ 0 hk with h|⟨e,he,hb,h⟩
 · simp at h
 · exact ⟨e,by simpa using he,hb,h⟩
theorem bEq {bs:List Nat}(hW:WOK ops λj k=>(bs.getD j 0).testBit k) (tot:List Rc) (htot:tot.length=ops.size) (hdis:∀j r,tot[j]? =some r->∀i x,tot[i]? =some x->i<j->(bs.getD j 0).testBit i=false->bX6 x r):
 ∀(l:List Oper) (rs0 rs:List Rc) (listed:Array Bool) (st:St),(∀ j,l[j]? =ops[rs0.length+j]?)->Region.lexFrom .any ops l.length rs0.length listed=true->tot=rs0++rs->
  cBg P gl T ops bs stF l rs0 st rs->rs.length=l.length->aXx (λj k=>(bs.getD j 0).testBit k) listed->(∀ j,j<rs0.length->listed.getD j true=true)->
  bVo P gl T ops (λi=>tot.getD i default) stF l.length listed st
 |[],rs0,rs,listed,st,hl,hB,ht,hR,hlen,hc,hlt=>⟨by simpa [Region.lexFrom] using hB,by rw [hR];exact ⟨rfl,λ_=>rfl⟩⟩
 |o::l,rs0,[],listed,st,hl,hB,ht,hR,hlen,hc,hlt=>by simp at hlen
 |o::l,rs0,r::rs,listed,st,hl,hB,ht,hR,hlen,hc,hlt=>by
  have h0:ops[rs0.length]? =some o:=by simpa using (hl 0).symm
  simp only [List.length_cons,Region.lexFrom,Bool.and_eq_true] at hB
  obtain ⟨⟨hr,hf⟩,hB'⟩:=hB
  have hr:rs0.length∈Region.ready .any ops listed:=by simpa using hr
  obtain ⟨hg,hcl,hR'⟩:=hR
  have hRk:tot.getD rs0.length default=r:=by rw [ht];simp
  have htk:tot[rs0.length]? =some r:=by rw [ht];simp
  refine bH1 hW h0 l.length listed st hc (Region.free_spec h0 hf) (λj oj hoj hne hun hw=>?_) hr (by rw [hRk];exact hg) ?_
  · have hj:rs0.length<j:=by
     rcases Nat.lt_or_ge rs0.length j with h|h
     · exact h
     · rcases Nat.lt_or_ge j rs0.length with h'|h'
       · rw [hlt j h'] at hun;cases hun
       · omega
    have hjs:j<tot.length:=by rw [htot];exact (Array.getElem?_eq_some_iff.1 hoj).1
    have htj:tot[j]? =some (tot.getD j default):=by rw [List.getD_eq_getElem?_getD,List.getElem?_eq_getElem hjs];rfl
    rw [hRk]
    exact hdis j _ htj rs0.length r htk hj hw
  · rw [hRk]
    refine bEq hW tot htot hdis l (rs0++[r]) rs _ _ (λj=>by have:=hl (j+1);simp only [List.length_append,List.length_singleton];rw [<- show rs0.length+(j+1)=rs0.length+1+j by omega];simpa using this) (by simpa using hB') (by simp [ht]) hR' (by simpa using hlen) (aTz hW hc hr) (λj hj=>?_)
    simp only [List.length_append,List.length_singleton] at hj
    by_cases hjk:rs0.length=j
    · subst hjk
      have:rs0.length<listed.size:=by
       have:=(mem_ready.1 hr).1
       rcases Nat.lt_or_ge rs0.length listed.size with h'|h'
       · exact h'
       · simp [Array.getElem?_eq_none h'] at this
      simp [this]
    · rw [getD_set_ne true hjk];exact hlt j (by omega)
theorem Rel.same {S:Nat->Prop}{H:Hp}{st st':St}{a:Act}{w:World}(h:aXz st st') (hr:Rel gl B S H st a w):Rel gl B S H st' a w:=
 ⟨hr.hh.trans h.1,hr.wd,λt=>by rw [<- h.2 t];exact hr.tm t,hr.pin⟩
theorem bLl (hT:TOK P T){N:Nat}{ds:List Deferred}{Q:Exit->Act->World->Prop}(hD:∀(i:Nat) (o:Oper),ops[i]? =some o->bYa N o=true)
 (hQ:∀S H a w,Rel gl B S H stF a w->a.tmps.size=N->a.defers=ds->Q .normal a w):
 ∀(fuel:Nat) (listed:Array Bool) (st:St) (S:Nat->Prop) (H:Hp) (a:Act) (w:World),Rel gl B S H st a w->a.tmps.size=N->a.defers=ds->bVo P gl T ops R stF fuel listed st->wpAny P .any ops Q fuel listed a w
 |0,listed,st,S,H,a,w,hr,hN,hds,h=>⟨h.1,hQ S H a w (hr.same h.2) hN hds⟩
 |fuel+1,listed,st,S,H,a,w,hr,hN,hds,h=>by
  refine ⟨λe=>hQ S H a w (hr.same (h.1 e)) hN hds,λi hi=>?_⟩
  obtain ⟨_,o,ho,_⟩:=mem_ready.1 hi
  obtain ⟨⟨hg,hgood⟩,hrest⟩:=h.2 i hi o ho
  have hd:∀d,o.dst=some d->d<a.tmps.size:=by rw [hN];exact bMx (hD i o ho)
  unfold wpOp
  rw [ho]
  simp only
  rw [aSb hr hg]
  cases hran:(R i).ran with
  |true=>
   rw [hran] at hgood
   simp only [if_true] at hgood ⊢
   obtain ⟨_,k2,k3⟩:=hgood
   left
   rw [<- hr.hh] at k2 k3
   refine cAv hT hr.opn (n:=(R i).n) (K:=λv d=>v=(R i).v/\d=(R i).d) (λx d hk q ob hq hn=>k3 q ob (by rw [<- hk.2];exact hq) hn) k2 _ _ λx d u S' H' w' hk he hx=>?_
   obtain ⟨rfl,rfl⟩:=hk
   exact bLl hT hD hQ fuel _ _ S' H' _ w' (hr.upd he hd hx) (by rw [aOv];exact hN) (by rw [aKh];exact hds) hrest
  |false=>
   rw [hran] at hgood
   simp only [Bool.false_eq_true,if_false] at hgood ⊢
   obtain ⟨k1,k2,_,_⟩:=hgood
   have e:ap o (R i) st=st.put o.dst .u:=by unfold ap St.upd;rw [k1,k2];rfl
   rw [e] at hrest
   exact bLl hT hD hQ fuel _ _ S H _ w (bGb hr hd) (by rw [aOv];exact hN) (by rw [aKh];exact hds) hrest
end
theorem bWd (hT:TOK P T) (hm:P.follows .mixedOrders=true){ops:Array Oper}{bs:List Nat}{id:Nat}{N:Nat}{ds:List Deferred}{Q:Ex->St->Prop}{st:St}{S:Nat->Prop}{H:Hp}{a:Act}{w:World}
 (hr:Rel gl B S H st a w) (hN:a.tmps.size=N) (hds:a.defers=ds) (hD:∀o∈ops.toList,bYa N o=true) (hB:Region.lexB .any ops=true) (hbs:bRb ops bs=true)
 (h:bEj P gl T ops bs (Q .nrm) ops.toList [] st):(Code.region id ops true).wp P (cBf gl B N ds Q) a w:=by
 simp only [Region.lexB,Bool.and_eq_true] at hB
 obtain ⟨rs,stF,k1,k2,k3⟩:=aSa ops bs (Q .nrm) ops.toList [] st h
 have hW:=bZc hbs
 have hd:=bAu ops.toList [] st rs k3 k1
 have hA:=bEq (P:=P) (gl:=gl) (T:=T) (stF:=stF) hW rs (by simpa using k1) (λj r hj i x hx hij hb=>hd j r hj i x (by simpa using hx) (by simpa using hij) (by simpa using hb)) ops.toList [] rs (Array.replicate ops.size false) st (by simp) (by simpa using hB.2) rfl k3 k1
  (λk hk=>by
    rcases Nat.lt_or_ge k ops.size with h|h
    · simp [h] at hk
    · simp [Array.getElem?_eq_none (by simpa using h:(Array.replicate ops.size false).size<=k)] at hk) (by simp)
 refine wp_region_any hm ?_
 have hE:=aLz hr.wd (w':={ w with drawn:=w.drawn+1}) rfl rfl rfl (Nat.le_refl _) (λ_ _=>rfl)
 have hr':Rel gl B S H st a { w with drawn:=w.drawn+1}:=⟨hr.hh,hE.wd,λt=>aAi.later hE.later _ _ (hr.tm t),hr.pin⟩
 have:=bLl (R:=λi=>rs.getD i default) hT (N:=N) (ds:=ds) (Q:=cBf gl B N ds Q) (λi o ho=>hD o (by
  have:=Array.mem_of_getElem? ho;simpa using this)) (λS H a w hr h1 h2=>⟨h1,h2,S,H,stF,hr,k2⟩) ops.toList.length (Array.replicate ops.size false) st S H a _ hr' hN hds hA
 simpa using this
end Go.V
namespace Go.V
open Go.RowKit
variable {P:Program}{gl:Gl}{T:Tab}{B:Base}{S:Nat->Prop}{H:Hp}{a:Act}{w:World}
theorem bFe (st:St) (ps:List Nat) (h:List Ob) (t:Nat):∀live:List Nat,lk .j (bIo st ps live) t=ren ps (st.get t)\/lk .j (bIo st ps live) t= .j
 |[]=>.inr rfl
 |k::r=>by
  unfold bIo lk
  cases hb:Nat.beq k t with
  |true=>left;simp only;rw [Nat.eq_of_beq_eq_true hb]
  |false=>exact bFe st ps h t r
theorem bAo:∀{k:Nat}{ps:List Nat}{i:Nat},bAn k ps i=true->∀{j:Nat},j<k->ps[j]? =some (i+j)
 |0,_,_,_,j,hj=>by omega
 |k+1,[],_,h,_,_=>by simp [bAn] at h
 |k+1,p::ps,i,h,j,hj=>by
  simp only [bAn,Bool.and_eq_true] at h
  cases j with
  |zero=>simp [Nat.eq_of_beq_eq_true h.1]
  |succ j=>
   have:=bAo h.2 (j:=j) (by omega)
   rw [List.getElem?_cons_succ,this];congr 1;omega
theorem aW9 {st:St}(hr:Rel gl B S H st a w) (live:List Nat){ps:List Nat}(hpp:(aMb ps && bAn B.pins.length ps 0)=true):Rel gl B S (H.keep ps) (st.keep live ps) a w:=by
 obtain ⟨hp,hpin⟩:=Bool.and_eq_true_iff.1 hpp
 refine ⟨by simp [Hp.keep,St.keep,hr.hh],⟨bN7 hr.wd.ok hp,hr.wd.kept,hr.wd.gl,hr.wd.bs,hr.wd.sup⟩,?_,?_⟩
 · intro t
   show aAi S (H.keep ps) w (lk .j (bIo st ps live) t) _
   rcases bFe st ps [] t live with e|e<;>rw [e]
   · exact aRz ps _ _ (hr.tm t)
   · simp [aAi]
 · intro i q hi
   have hlt:i<B.pins.length:=(List.getElem?_eq_some_iff.1 hi).1
   have:=bAo hpin hlt
   rw [Nat.zero_add] at this
   obtain ⟨k1,k2,k3⟩:=aDl (H:=H) this
   rw [k1,k2,k3]
   exact hr.pin i q hi
def bMy (N:Nat):Code->Bool
 | .region _ ops _=>ops.toList.all (bYa N)
 | .seq a b=>bMy N a && bMy N b
 | .cond _ a b=>bMy N a && bMy N b
 | .block _ c=>bMy N c
 | .loop c=>bMy N c
 |_=>true
theorem bW6 (p:Nat->Prop) (h:∃n,p n):∃n,p n/\∀m,p m->n<=m:=by
 obtain ⟨n,hn⟩:=h
 induction n using Nat.strongRecOn with
 |_ n ih=>
  by_cases hm:∃m,m<n/\p m
  · obtain ⟨m,hlt,hp⟩:=hm
    exact ih m hlt hp
  · exact ⟨n,hn,λm hp=>by
     rcases Nat.lt_or_ge m n with h|h
     · exact absurd ⟨m,h,hp⟩ hm
     · exact h⟩
open Classical in
theorem bEl {c:Code}{Q:Exit->Act->World->Prop}(I:Nat->Act->World->Prop) (h0:∃m,I m a w)
 (round:∀m a w,I m a w->c.wp P (Exit.then (λa' w'=>∃m',m'<m/\I m' a' w') Q) a w):(Code.loop c).wp P Q a w:=by
 refine wp_loop (I:=λa w=>∃m,I m a w) (μ:=λa w=>if h:∃m,I m a w then (bW6 _ h).choose else 0) h0 λa w h=>?_
 have hs:=(bW6 _ h).choose_spec
 refine wp_mono (round _ a w hs.1) λe a' w' he=>?_
 cases e<;>first|exact he|skip
 obtain ⟨m',hlt,hI⟩:=he
 refine ⟨⟨m',hI⟩,?_⟩
 have hex:∃m,I m a' w':=⟨m',hI⟩
 simp only [dif_pos h,dif_pos hex]
 exact Nat.lt_of_le_of_lt ((bW6 _ hex).choose_spec.2 m' hI) hlt
theorem bTg {ops:Array Oper}{o:Oper}{st:St}{X Y X' Y':Prop}(h:vgd ops o st X Y) (hx:X->X') (hy:Y->Y'):vgd ops o st X' Y':=by
 unfold vgd at h ⊢
 generalize o.guard=g at h ⊢
 cases g with
 |none=>exact hx h
 |some q=>
  obtain ⟨i,b⟩:=q
  dsimp only at h ⊢
  generalize (ops[i]?).bind (·.dst)=d at h ⊢
  cases d with
  |none=>exact h
  |some d=>
   dsimp only at h ⊢
   generalize st.get d=x at h ⊢
   cases x with
   |bool c=>cases b<;>cases c<;>first|exact hx h|exact hy h
   |u=>exact hy h
   |_=>exact h
theorem aXp (ops:Array Oper) (bs:List Nat) (K:St->Prop):∀(l:List Oper) (i:Nat) (ns:List Note) (st:St),i=ns.length->bGp P gl T ops bs K l i ns st->bEj P gl T ops bs K l ns st
 |[],i,ns,st,_,h=>h
 |o::r,i,ns,st,hi,h=>by
  subst hi
  simp only [bGp,cC2,bM2,bZ7,bWo,bT2,bZ5,cYh] at h
  simp only [bEj]
  refine bTg h (λh=>?_) λh=>aXp ops bs K r _ _ _ (by simp) h
  obtain ⟨v,d,h1,h2⟩:=bO6 _ h
  refine h2 _ ?_
  rw [aBy,cRu] at h1 ⊢
  exact ⟨h1.1,h1.2.1,aXp ops bs K r _ _ _ (by simp) h1.2.2⟩
theorem aN5 (hT:TOK P T) (hm:P.follows .mixedOrders=true){N:Nat}{ds:List Deferred}{np:Nat}(hnp:B.pins.length=np):∀(c:Code) (Q:Ex->St->Prop) (st:St) (S:Nat->Prop) (H:Hp) (a:Act) (w:World),
 Rel gl B S H st a w->a.tmps.size=N->a.defers=ds->bMy N c=true->vwp P gl T np c Q st->c.wp P (cBf gl B N ds Q) a w
 | .skip,Q,st,S,H,a,w,hr,hN,hds,hD,h=>wp_skip ⟨hN,hds,S,H,st,hr,h⟩
 | .region id ops false,Q,st,S,H,a,w,hr,hN,hds,hD,h=>
   wp_region_list (aRy hT ops ops.toList st S H a w hr hN hds (λo ho=>List.all_eq_true.1 hD o ho) h)
 | .region id ops true,Q,st,S,H,a,w,hr,hN,hds,hD,h=>by
   obtain ⟨hB,bs,hbs,h⟩:=h
   have h:=aXp ops bs (Q .nrm) ops.toList 0 [] st rfl h
   exact bWd hT hm hr hN hds (λo ho=>List.all_eq_true.1 hD o ho) hB hbs h
 | .seq x y,Q,st,S,H,a,w,hr,hN,hds,hD,h=>by
   simp only [bMy,Bool.and_eq_true] at hD
   refine wp_seq (wp_mono (aN5 hT hm hnp x _ st S H a w hr hN hds hD.1 h) λe a' w' he=>?_)
   obtain ⟨h1,h2,S',H',st',hr',he⟩:=he
   cases e with
   |normal=>exact aN5 hT hm hnp y Q st' S' H' a' w' hr' h1 h2 hD.2 he
   |exit id=>exact ⟨h1,h2,S',H',st',hr',he⟩
   |ret=>exact ⟨h1,h2,S',H',st',hr',he⟩
   |_=>exact he.elim
 | .cond c x y,Q,st,S,H,a,w,hr,hN,hds,hD,h=>by
   simp only [bMy,Bool.and_eq_true] at hD
   simp only [vwp] at h
   have hc:=hr.opn.ev c
   split at h
   · rename_i t e;rw [e] at hc;simp only [aAi] at hc
     cases t with
     |true=>exact wp_cond_true hc (aN5 hT hm hnp x Q st S H a w hr hN hds hD.1 h)
     |false=>exact wp_cond_false hc (aN5 hT hm hnp y Q st S H a w hr hN hds hD.2 h)
   · exact h.elim
 | .block id c,Q,st,S,H,a,w,hr,hN,hds,hD,h=>by
   refine wp_block (wp_mono (aN5 hT hm hnp c _ st S H a w hr hN hds hD h) λe a' w' he=>?_)
   obtain ⟨h1,h2,S',H',st',hr',he⟩:=he
   cases e with
   |normal=>exact ⟨h1,h2,S',H',st',hr',he⟩
   |exit k=>
    simp only [bM0] at he
    unfold Exit.inBlock
    simp only
    split at he
    · rename_i hb
      rw [if_pos (Nat.eq_of_beq_eq_true hb)]
      exact ⟨h1,h2,S',H',st',hr',he⟩
    · rename_i hb
      rw [if_neg (Nat.ne_of_beq_eq_false hb)]
      exact ⟨h1,h2,S',H',st',hr',he⟩
   |ret=>exact ⟨h1,h2,S',H',st',hr',he⟩
   |_=>exact he.elim
 | .loop c,Q,st,S,H,a,w,hr,hN,hds,hD,h=>by
   obtain ⟨live,ps,I,hp,⟨m,hI⟩,hround⟩:=h
   refine bEl (λm a w=>a.tmps.size=N/\a.defers=ds/\∃S H st,Rel gl B S H st a w/\I m st) ⟨m,hN,hds,S,_,_,aW9 hr live (hnp ▸ hp),hI⟩ λm a w hJ=>?_
   obtain ⟨hN,hds,S,H,st,hr,hI⟩:=hJ
   refine wp_mono (aN5 hT hm hnp c _ st S H a w hr hN hds hD (hround m st hI)) λe a' w' he=>?_
   obtain ⟨h1,h2,S',H',st',hr',he⟩:=he
   cases e with
   |normal=>
    obtain ⟨ps',m',hp',hlt,hI'⟩:=he
    exact ⟨m',hlt,h1,h2,S',_,_,aW9 hr' live (hnp ▸ hp'),hI'⟩
   |exit id=>exact ⟨h1,h2,S',H',st',hr',he⟩
   |ret=>exact ⟨h1,h2,S',H',st',hr',he⟩
   |_=>exact he.elim
 | .exit id,Q,st,S,H,a,w,hr,hN,hds,hD,h=>wp_exit ⟨hN,hds,S,H,st,hr,h⟩
 | .ret,Q,st,S,H,a,w,hr,hN,hds,hD,h=>wp_ret ⟨hN,hds,S,H,st,hr,h⟩
 | .label _,Q,st,S,H,a,w,hr,hN,hds,hD,h=>h.elim
 | .goto _,Q,st,S,H,a,w,hr,hN,hds,hD,h=>h.elim
 | .rangeFunc _ _ _ _,Q,st,S,H,a,w,hr,hN,hds,hD,h=>h.elim
 | .scope _,Q,st,S,H,a,w,hr,hN,hds,hD,h=>h.elim
 | .refuse _,Q,st,S,H,a,w,hr,hN,hds,hD,h=>h.elim
end Go.V
namespace Go.V
open Go.RowKit
variable {P:Program}{gl:Gl}{T:Tab}{B:Base}{S:Nat->Prop}{H:Hp}{a:Act}{w:World}
def bJg (T:Tab) (st:St):List ResultVar->(List AV->Prop)->Prop
 |[],K=>K []
 | .tmp t::r,K=>bJg T st r λxs=>K (st.get t::xs)
 | .cell a t::r,K=>aXr (T.ti t) (aAd st.h) (st.get a) λx=>bJg T st r λxs=>K (x::xs)
mutual
def cA7 (G:Nat->Ob):AV->(AV->List Nat->List Nat->Prop)->Prop
 | .own p off len,K=>match G p with
   | .row true _ sz es=>K (.ro sz ((es.drop off).take len)) [] []
   | .row false e sz es=>match off with
     |0=>(len=es.length/\K (.fr e sz es) [p] [])\/K (.fr e sz (es.take len)) [p] []\/K (.ro sz (es.take len)) [] [p]
     |off+1=>K (.ro sz ((es.drop (off+1)).take len)) [] [p]
   |_=>K .j [] []
 | .agg cs,K=>bO4 G cs λys ps qs=>K (.agg ys) ps qs
 | .tup _,_=>False
 | .fr _ _ _,_=>False
 | .bptr _ _,K=>K .j [] []
 | .ptr _ _ _,K=>K .j [] []
 | .map _,K=>K .j [] []
 | .fn _ _,K=>K .j [] []
 | .iface t _,K=>K (.iface t .j) [] []
 | .ro sz es,K=>K (.ro sz es) [] []
 | .rp cs,K=>K (.rp cs) [] []
 | .j,K=>K .j [] []
 | .u,K=>K .u [] []
 | .int k n,K=>K (.int k n) [] []
 | .bool b,K=>K (.bool b) [] []
 | .str s,K=>K (.str s) [] []
 | .nils,K=>K .nils [] []
 | .nili,K=>K .nili [] []
def bO4 (G:Nat->Ob):List AV->(List AV->List Nat->List Nat->Prop)->Prop
 |[],K=>K [] [] []
 |x::xs,K=>cA7 G x λy ps qs=>bO4 G xs λys ps' qs'=>K (y::ys) (ps++ps') (qs++qs')
end
def one:List AV->AV
 |[y]=>y
 |ys=>.tup ys
def cBo (T:Tab) (rs:List ResultVar) (R:AV->Prop) (st:St):Prop:=
 bJg T st rs λxs=>bO4 (aAd st.h) xs λys ps qs=>chk (aMb ps && bJm ps qs) (R (one ys))
def cC9 (T:Tab) (rs:List ResultVar) (R:AV->Prop):Ex->St->Prop
 | .ex _,_=>False
 |_,st=>cBo T rs R st
def aSy:Nat->List AV->List (Nat×AV)
 |_,[]=>[]
 |i,x::xs=>(i,x)::aSy (i+1) xs
def aXe (tmps:Array Value):ResultVar->Sem Value
 | .tmp t=>pure (tmps.getD t undef)
 | .cell x t=>do loadVar t (<- asAddr (tmps.getD x undef))
theorem aO0 (hT:TOK P T){st:St}(hr:Rel gl B S H st a w):∀(rs:List ResultVar) (K:List AV->Prop),bJg T st rs K->
 ∃xs vs,K xs/\aAt S H w xs vs/\(rs.mapM (aXe a.tmps)).run P w= .ok vs w
 |[],K,h=>⟨[],[],h,by simp [aAt],by simp⟩
 | .tmp t::r,K,h=>by
   obtain ⟨xs,vs,h1,h2,h3⟩:=aO0 hT hr r _ h
   refine ⟨_,a.tmps.getD t undef::vs,h1,by simp only [aAt];exact ⟨_,_,rfl,hr.tm t,h2⟩,?_⟩
   rw [List.mapM_cons,Sem.run_bind]
   simp only [aXe,Sem.run_pure,Result.andThen_ok,Sem.run_bind,h3]
 | .cell x t::r,K,h=>by
   simp only [bJg] at h
   rw [<- hr.hh] at h
   obtain ⟨y,u,h1,h2,h3⟩:=bGq hT hr.wd.ok t h (hr.tm x)
   obtain ⟨xs,vs,k1,k2,k3⟩:=aO0 hT hr r _ h3
   refine ⟨_,u::vs,k1,by simp only [aAt];exact ⟨_,_,rfl,h2,k2⟩,?_⟩
   have hl:(aXe a.tmps (.cell x t)).run P w= .ok u w:=by
    simp only [Instr.loadAt] at h1
    simp only [aXe]
    generalize a.tmps.getD x undef=v at h1 ⊢
    cases v with
    |pointer p=>
     cases p with
     |none=>simp [Instr.sureAddr] at h1
     |some ad=>simpa [Instr.sureAddr,asAddr] using h1
    |_=>simp [Instr.sureAddr] at h1
   rw [List.mapM_cons,Sem.run_bind]
   simp only [hl,Result.andThen_ok,Sem.run_bind,k3,Sem.run_pure]
structure Exp (S:Nat->Prop) (H:Hp) (b0:Nat) (w:World) (ps qs:List Nat) (Rep:(Nat->Prop)->List (Nat×Nat)->Prop):Prop where
 fr:∀p∈ps,∃e sz es,aAd H.h p= .row false e sz es
 ro:∀q∈qs,∃e sz es,aAd H.h q= .row false e sz es
 rep:∀S':Nat->Prop,(∀ b,S b->S' b)->(∀ q∈qs,S' (H.β q))->Rep S' (ps.map λp=>(H.β p,H.κ p))
theorem aF9 {b0:Nat}{x:AV}{v:Value}(hx:∀(S':Nat->Prop) b F,aDw S' b w x v F↔F=[]/\aAi S' H0 w x v) (h:∀S',(∀ b,S b->S' b)->aAi S' H0 w x v):Exp S H b0 w [] [] λS' F=>aDw S' b0 w x v F:=
 ⟨by simp,by simp,λS' h1 _=>(hx _ _ _).2 ⟨rfl,h S' h1⟩⟩
theorem aDm {S':Nat->Prop}(h:∀b,S b->S' b):Later S H0 w S' H0 w:=⟨λb hb _=>⟨h b hb,rfl⟩,Nat.le_refl _,λp hp=>absurd (aY0 p) hp⟩
theorem bWn {b0:Nat}(hok:HeapOK S B H w) (hb0:∀p s,H.at p=some (some s)->¬S (H.β p)->b0<=H.β p){p off len:Nat}{v:Value}(h:aAi S H w (.own p off len) v){K:AV->List Nat->List Nat->Prop}(hk:cA7 (aAd H.h) (.own p off len) K):
 ∃y ps qs,K y ps qs/\Exp S H b0 w ps qs λS' F=>aDw S' b0 w y v F:=by
 simp only [cA7] at hk
 split at hk
 · rename_i e sz es ho
   have hS:S (H.β p):=(hok.row p _ _ _ _ ho).2.2 rfl
   exact ⟨_,_,_,hk,aF9 (λS' b F=>by simp only [aDw]) λS' h1=>aW4 hok ⟨h1,λq hq fz e sz es _=>by simp at hq;subst hq;exact h1 _ hS⟩ ho h⟩
 · rename_i e sz es ho
   have ro:∀off',off'=off->Exp S H b0 w [] [p] λS' F=>aDw S' b0 w (.ro sz ((es.drop off').take len)) v F:=λoff' ho'=>by
    subst ho'
    refine ⟨by simp,λq hq=>?_,λS' h1 h2=>?_⟩
    · simp at hq;subst hq;exact ⟨_,_,_,ho⟩
    · simp only [aDw]
      exact ⟨rfl,aW4 hok ⟨h1,λq hq fz e sz es _=>by simp at hq;subst hq;exact h2 _ (by simp)⟩ ho h⟩
   split at hk
   · rcases hk with ⟨hl,hk⟩|hk|hk
     · refine ⟨_,_,_,hk,λq hq=>?_,by simp,λS' h1 _=>?_⟩
       · simp at hq;subst hq;exact ⟨_,_,_,ho⟩
       · have hat:=aCk ho
         simp only [aAi] at h
         obtain ⟨hv,hle⟩:=h.2.2 _ hat
         simp only [aDw]
         refine ⟨H.β p,H.κ p,rfl,?_,hb0 p _ hat (λhs=>by have:=(hok.row p _ _ _ _ ho).2.1 hs;simp at this),(hok.row p _ _ _ _ ho).1.later (aDm h1) rfl⟩
         rw [hv];simp [hl]
     · refine ⟨_,_,_,hk,λq hq=>?_,by simp,λS' h1 _=>?_⟩
       · simp at hq;subst hq;exact ⟨_,_,_,ho⟩
       · have hat:=aCk ho
         simp only [aAi] at h
         obtain ⟨hv,hle⟩:=h.2.2 _ hat
         simp only [aDw]
         refine ⟨H.β p,H.κ p,rfl,?_,hb0 p _ hat (λhs=>by have:=(hok.row p _ _ _ _ ho).2.1 hs;simp at this),((hok.row p _ _ _ _ ho).1.take len).later (aDm h1) rfl⟩
         simp only [Nat.zero_add] at hle
         rw [hv];simp;omega
     · exact ⟨_,_,_,hk,by simpa using ro 0 rfl⟩
   · exact ⟨_,_,_,hk,ro _ rfl⟩
 · exact ⟨_,_,_,hk,aF9 (λS' b F=>by simp only [aDw]) λS' h1=>by simp [aAi]⟩
mutual
theorem bX0 {S:Nat->Prop}{H:Hp}{w:World}{b0:Nat}(hok:HeapOK S B H w) (hb0:∀p s,H.at p=some (some s)->¬S (H.β p)->b0<=H.β p):∀(x:AV) (v:Value) (K:AV->List Nat->List Nat->Prop),aAi S H w x v->cA7 (aAd H.h) x K->
 ∃y ps qs,K y ps qs/\Exp S H b0 w ps qs λS' F=>aDw S' b0 w y v F
 | .own p off len,v,K,h,hk=>bWn hok hb0 h hk
 | .agg cs,v,K,h,hk=>by
   simp only [aAi,cA7] at h hk
   obtain ⟨vs,rfl,h1,hl⟩:=h
   obtain ⟨ys,ps,qs,k1,k2⟩:=aXq hok hb0 cs vs _ hl hk
   exact ⟨_,ps,qs,k1,k2.fr,k2.ro,λS' h2 h3=>by simp only [aDw];exact ⟨vs,rfl,h1,k2.rep S' h2 h3⟩⟩
 | .tup _,v,K,h,hk=>hk.elim
 | .fr _ _ _,v,K,h,hk=>hk.elim
 | .bptr _ _,v,K,h,hk| .ptr _ _ _,v,K,h,hk| .map _,v,K,h,hk| .fn _ _,v,K,h,hk=>⟨_,_,_,hk,aF9 (λS' b F=>by simp only [aDw]) λS' h1=>by simp [aAi]⟩
 | .iface t x,v,K,h,hk=>⟨_,_,_,hk,aF9 (λS' b F=>by simp only [aDw]) λS' h1=>by
    simp only [aAi] at h ⊢;obtain ⟨u,e,_⟩:=h;exact ⟨u,e,trivial⟩⟩
 | .ro sz es,v,K,h,hk=>⟨_,_,_,hk,aF9 (λS' b F=>by simp only [aDw]) λS' h1=>aAi.later (aDm h1) (.ro sz es) v (by simpa [aAi] using h)⟩
 | .rp cs,v,K,h,hk=>⟨_,_,_,hk,aF9 (λS' b F=>by simp only [aDw]) λS' h1=>aAi.later (aDm h1) (.rp cs) v (by simpa [aAi] using h)⟩
 | .j,v,K,h,hk| .u,v,K,h,hk| .int _ _,v,K,h,hk| .bool _,v,K,h,hk| .str _,v,K,h,hk| .nils,v,K,h,hk| .nili,v,K,h,hk=>⟨_,_,_,hk,aF9 (λS' b F=>by simp only [aDw]) λS' h1=>by simpa [aAi] using h⟩
theorem aXq {S:Nat->Prop}{H:Hp}{w:World}{b0:Nat}(hok:HeapOK S B H w) (hb0:∀p s,H.at p=some (some s)->¬S (H.β p)->b0<=H.β p):∀(xs:List AV) (vs:List Value) (K:List AV->List Nat->List Nat->Prop),aAt S H w xs vs->bO4 (aAd H.h) xs K->
 ∃ys ps qs,K ys ps qs/\Exp S H b0 w ps qs λS' F=>aC5 S' b0 w ys vs F
 |[],vs,K,h,hk=>by
  simp only [aAt] at h
  exact ⟨_,_,_,hk,by simp,by simp,λS' _ _=>by simp [aC5,h]⟩
 |x::xs,vs,K,h,hk=>by
  simp only [aAt,bO4] at h hk
  obtain ⟨v,r,rfl,h1,h2⟩:=h
  obtain ⟨y,ps,qs,hk,k2⟩:=bX0 hok hb0 x v _ h1 hk
  obtain ⟨ys,ps',qs',hk,l2⟩:=aXq hok hb0 xs r _ h2 hk
  refine ⟨_,_,_,hk,λp hp=>(List.mem_append.1 hp).elim (k2.fr p) (l2.fr p),λp hp=>(List.mem_append.1 hp).elim (k2.ro p) (l2.ro p),λS' h3 h4=>?_⟩
  simp only [aC5,List.map_append]
  exact ⟨v,r,_,_,rfl,rfl,k2.rep S' h3 λq hq=>h4 q (List.mem_append_left _ hq),l2.rep S' h3 λq hq=>h4 q (List.mem_append_right _ hq)⟩
end
theorem aQf:∀(args:List AV) (vs:List Value) (i t:Nat) (arr:List Value),aAt S H w args vs->(∀ j v,vs[j]? =some v->arr[i+j]? =some v)->aAi S H w (lk .j (aSy i args) t) ((arr.toArray).getD t undef)
 |[],vs,i,t,arr,_,_=>by simp [aSy,lk,aAi]
 |x::xs,vs,i,t,arr,h,ha=>by
  simp only [aAt] at h
  obtain ⟨v,r,rfl,h1,h2⟩:=h
  unfold aSy lk
  cases hb:Nat.beq i t with
  |true=>
   have e:=Nat.eq_of_beq_eq_true hb
   subst e
   have:=ha 0 v rfl
   simp only [Nat.add_zero] at this
   simp only [Array.getD_eq_getD_getElem?,List.getElem?_toArray,this]
   exact h1
  |false=>
   refine aQf xs r (i+1) t arr h2 λj v hj=>?_
   have:=ha (j+1) v (by simpa using hj)
   rw [show i+1+j=i+(j+1) by omega];exact this
theorem bX2 (hT:TOK P T){fn:Func}{st:St}(hr:Rel gl B S H st a w) (hM:∀b,¬B.M b) (hS0:∀b,B.S0 b->b<B.w0.heap.size){R:AV->Prop}(h:cBo T fn.results.toList R st):
 ∃x v,(results fn a.tmps).run P w= .ok v w/\R x/\bGt B.S0 B.w0.heap.size w x v:=by
 unfold cBo at h
 obtain ⟨xs,vs,h1,h2,h3⟩:=aO0 hT hr _ _ h
 rw [<- hr.hh] at h1
 have mine:∀p s,H.at p=some (some s)->¬S (H.β p)->B.w0.heap.size<=H.β p:=λp s hp hns=>(hr.wd.ok.mine p s hp hns).elim id λh=>absurd h (hM _)
 obtain ⟨ys,ps,qs,hk,hE⟩:=aXq hr.wd.ok mine xs vs _ h2 h1
 simp only [aBy,Bool.and_eq_true] at hk
 obtain ⟨⟨hnd,hdj⟩,hR⟩:=hk
 have hS:∀b,(S b\/∃q∈qs,b=H.β q)->b<w.heap.size/\(B.S0 b\/B.w0.heap.size<=b):=by
  rintro b (hb|⟨q,hq,rfl⟩)
  · refine ⟨hr.wd.ok.sb b hb,?_⟩
    rcases hr.wd.bs b hb with h|h|h
    · exact .inl h
    · exact .inr h
    · exact absurd h (hM b)
  · obtain ⟨e,sz,es,ho⟩:=hE.ro q hq
    exact ⟨aCc hr.wd.ok (aCk ho),.inr (mine q _ (aCk ho) (λhs=>by have:=(hr.wd.ok.row q _ _ _ _ ho).2.1 hs;simp at this))⟩
 have hrep:=hE.rep (λb=>S b\/∃q∈qs,b=H.β q) (λb hb=>.inl hb) (λq hq=>.inr ⟨q,hq,rfl⟩)
 have hnodup:((ps.map λp=>(H.β p,H.κ p)).map (·.1)).Nodup:=by
  rw [List.map_map]
  have:∀l:List Nat,aMb l=true->(∀ p∈l,(∃ s,H.at p=some (some s))/\¬S (H.β p))->(l.map (Prod.fst ∘ λp=>(H.β p,H.κ p))).Nodup:=λl=>by
   induction l with
   |nil=>simp
   |cons p l ih=>
    intro hn hl
    simp only [aMb,Bool.and_eq_true,Bool.not_eq_true'] at hn
    simp only [List.map_cons,List.nodup_cons,List.mem_map]
    refine ⟨?_,ih hn.2 λq hq=>hl q (by simp [hq])⟩
    rintro ⟨q,hq,e⟩
    obtain ⟨⟨s,hs⟩,_⟩:=hl p (by simp)
    obtain ⟨⟨s',hs'⟩,hnS⟩:=hl q (by simp [hq])
    have:=hr.wd.ok.inj q p _ _ hs' hs e hnS
    subst this
    have:=List.any_eq_false.1 hn.1 q hq
    simp at this
  exact this ps hnd λp hp=>by obtain ⟨e,sz,es,ho⟩:=hE.fr p hp;exact ⟨⟨_,aCk ho⟩,λhs=>by have:=(hr.wd.ok.row p _ _ _ _ ho).2.1 hs;simp at this⟩
 have hres:∀x v,aDw (λb=>S b\/∃q∈qs,b=H.β q) B.w0.heap.size w x v (ps.map λp=>(H.β p,H.κ p))->bGt B.S0 B.w0.heap.size w x v:=λx v hx=>
  ⟨_,_,hx,hnodup,λq hq=>by
    obtain ⟨p,hp,rfl⟩:=List.mem_map.1 hq
    obtain ⟨e,sz,es,ho⟩:=hE.fr p hp
    rintro (hs|⟨q,hq,e'⟩)
    · have:=(hr.wd.ok.row p _ _ _ _ ho).2.1 hs;simp at this
    · obtain ⟨e2,sz2,es2,ho2⟩:=hE.ro q hq
      have:=hr.wd.ok.inj p q _ _ (aCk ho) (aCk ho2) e' λhs=>by have:=(hr.wd.ok.row p _ _ _ _ ho).2.1 hs;simp at this
      subst this
      exact aQb hdj p hp hq,hS⟩
 have hrun:(results fn a.tmps).run P w= .ok (if h:vs.length=1 then vs[0] else .tuple vs.toArray) w:=by
  have hm:(fn.results.mapM (aXe a.tmps)).run P w= .ok vs.toArray w:=by
   rw [<- Array.toArray_toList (xs:=fn.results),List.mapM_toArray]
   simp [h3]
  have he:results fn a.tmps=(do let vs <-fn.results.mapM (aXe a.tmps);pure (if h:vs.size=1 then vs[0] else .tuple vs)):=by
   unfold results
   congr 1
  rw [he,Sem.run_bind,hm]
  simp
 have hly:=aAt.length h2
 refine ⟨one ys,_,hrun,hR,?_⟩
 by_cases hl:vs.length=1
 · rw [dif_pos hl]
   obtain ⟨v,rfl⟩:=List.length_eq_one_iff.1 hl
   cases ys with
   |nil=>simp [aC5] at hrep
   |cons y ys=>
    simp only [aC5] at hrep
    obtain ⟨v',r,F1,F2,e1,e2,h5,h6⟩:=hrep
    simp only [List.cons.injEq] at e1
    obtain ⟨rfl,rfl⟩:=e1
    cases ys with
    |nil=>
     simp only [aC5] at h6
     rw [h6.2,List.append_nil] at e2
     exact hres y v (by rw [e2];exact h5)
    |cons z zs=>simp [aC5] at h6
 · rw [dif_neg hl]
   refine hres _ _ ?_
   have:one ys= .tup ys:=by
    cases ys with
    |nil=>rfl
    |cons y ys=>cases ys with
     |nil=>
      simp only [aC5] at hrep
      obtain ⟨v',r,F1,F2,rfl,e2,h5,rfl,_⟩:=hrep
      simp at hl
     |cons z zs=>rfl
   rw [this]
   simp only [aDw]
   exact ⟨vs,rfl,hrep⟩
theorem aAa {f:FuncId}{fn:Func}{c:Code}{args:List AV}{R:AV->Prop}(hT:TOK P T) (hm:P.follows .mixedOrders=true) (hf:P.funcs[f]? =some fn) (hb:fn.body=some c)
 (hname:(fn.name == "runtime.NumGoroutine")=false) (hd:bMy fn.ntmps c=true) (hn:Nat.ble args.length fn.ntmps=true)
 (h:vwp P gl T 0 c (cC9 T fn.results.toList R) ⟨aSy 0 args,[]⟩):aAc P gl f args R:=by
 intro S w vs hS hgl hargs
 have hlen:=aAt.length hargs
 have hn:=Nat.le_of_ble_eq_true hn
 refine .inl ⟨?_,?_⟩
 · have hne:fn.name≠ "runtime.NumGoroutine" :=by simpa using hname
   simp [callFunc,hf,hne,hb]
 · refine calls_of_wp hf hb ?_
   let B:Base:=⟨w,λ_=>False,S,[]⟩
   have hwd:Wd gl B S H0 w:=⟨⟨hS,λp fz e sz es ho=>by simp [H0,aAd] at ho,λp t cs ho=>by simp [H0,aAd] at ho,λp l ho=>by simp [H0,aAd] at ho,λp q s s' hp=>(by rw [aY0] at hp;cases hp),λp x k ho=>by simp [H0,aAd] at ho,λp s hp=>(by rw [aY0] at hp;cases hp)⟩,
    ⟨rfl,rfl,rfl,Nat.le_refl _,λ_ _ _=>rfl⟩,hgl,λb hb=>.inl hb,λb hb=>hb⟩
   have hrel:Rel gl B S H0 ⟨aSy 0 args,[]⟩ { tmps:=vs.toArray++Array.replicate (fn.ntmps - vs.toArray.size) undef,defers:=[]} w:=by
    refine ⟨rfl,hwd,λt=>?_,λi q hi=>by simp [B] at hi⟩
    have e:vs.toArray++Array.replicate (fn.ntmps - vs.toArray.size) undef=(vs++List.replicate (fn.ntmps - vs.length) undef).toArray:=by
     simp
    show aAi S H0 w (lk .j (aSy 0 args) t) _
    rw [e]
    exact aQf args vs 0 t _ hargs λj v hj=>by
     rw [Nat.zero_add,List.getElem?_append_left (List.getElem?_eq_some_iff.1 hj).1];exact hj
   have hw:=aN5 hT hm (N:=fn.ntmps) (ds:=[]) (B:=B) (np:=0) rfl c _ _ S H0 _ w hrel (by simp;omega) rfl hd h
   refine wp_mono hw λe a' w' he=>?_
   obtain ⟨h1,h2,S',H',st',hr',he⟩:=he
   have fin:cBo T fn.results.toList R st'->a'.defers=[]/\∃v,(results fn a'.tmps).run P w'= .ok v w'/\∃v',Ending.returned v= .returned v'/\∃x,R x/\bGt S w.heap.size w' x v'/\Below w.heap.size w w':=λho=>by
    obtain ⟨x,v,k1,k2,k3⟩:=bX2 hT hr' (λ_ h=>h) hS ho
    exact ⟨h2,v,k1,v,rfl,x,k2,k3,hr'.wd.kept.os,hr'.wd.kept.tape,hr'.wd.kept.output,hr'.wd.kept.size,λk hk=>hr'.wd.kept.block k hk λh=>h⟩
   cases e with
   |normal=>exact fin he
   |ret=>exact fin he
   |exit id=>exact he.elim
   |_=>exact he.elim
theorem bEa {fn:Func}{vs:List Value}(h3:(fn.results.toList.mapM (aXe a.tmps)).run P w= .ok vs w):(results fn a.tmps).run P w= .ok (if h:vs.length=1 then vs[0] else .tuple vs.toArray) w:=by
 have hm:(fn.results.mapM (aXe a.tmps)).run P w= .ok vs.toArray w:=by
  rw [<- Array.toArray_toList (xs:=fn.results),List.mapM_toArray]
  simp [h3]
 have he:results fn a.tmps=(do let vs <-fn.results.mapM (aXe a.tmps);pure (if h:vs.size=1 then vs[0] else .tuple vs)):=by
  unfold results
  congr 1
 rw [he,Sem.run_bind,hm]
 simp
theorem bXk {xs:List AV}{vs:List Value}(h:aAt S H w xs vs):aAi S H w (one xs) (if h:vs.length=1 then vs[0] else .tuple vs.toArray):=by
 have hl:=aAt.length h
 cases xs with
 |nil=>
  simp only [aAt] at h;subst h
  simp [one,aAi,aAt]
 |cons x xs=>
  cases xs with
  |nil=>
   simp only [aAt] at h
   obtain ⟨v,r,rfl,hv,rfl⟩:=h
   simpa [one] using hv
  |cons y ys=>
   rw [dif_neg (by rw [hl];simp)]
   simp only [one,aAi]
   exact ⟨vs,rfl,h⟩
def cBa (T:Tab) (rs:List ResultVar) (np:Nat) (R:AV->List Ob->Prop) (st:St):Prop:=
 bJg T st rs λxs=>∃ps,(aMb ps && bAn np ps 0)=true/\R (ren ps (one xs)) (aOa st.h ps ps)
def cCk (T:Tab) (rs:List ResultVar) (np:Nat) (R:AV->List Ob->Prop):Ex->St->Prop
 | .ex _,_=>False
 |_,st=>cBa T rs np R st
theorem aGl {f:FuncId}{fn:Func}{c:Code}{args:List AV}{obs:List Ob}{R:AV->List Ob->Prop}(hT:TOK P T) (hm:P.follows .mixedOrders=true) (hf:P.funcs[f]? =some fn) (hb:fn.body=some c)
 (hname:(fn.name == "runtime.NumGoroutine")=false) (hd:bMy fn.ntmps c=true) (hn:Nat.ble args.length fn.ntmps=true)
 (h:vwp P gl T obs.length c (cCk T fn.results.toList obs.length R) ⟨aSy 0 args,obs⟩):aFp P gl f args obs R:=by
 intro S H w vs hh hlive hok hgl hargs
 have hlen:=aAt.length hargs
 have hn:=Nat.le_of_ble_eq_true hn
 refine .inl ⟨?_,?_⟩
 · have hne:fn.name≠ "runtime.NumGoroutine" :=by simpa using hname
   simp [callFunc,hf,hne,hb]
 · refine calls_of_wp hf hb ?_
   have hpl:(aIw S H w).pins.length=obs.length:=by simp [aIw,hh]
   have hwd:Wd gl (aIw S H w) S H w:=⟨hok,⟨rfl,rfl,rfl,Nat.le_refl _,λ_ _ _=>rfl⟩,hgl,λb hb=>.inl hb,λb hb=>hb⟩
   have hrel:Rel gl (aIw S H w) S H ⟨aSy 0 args,obs⟩ { tmps:=vs.toArray++Array.replicate (fn.ntmps - vs.toArray.size) undef,defers:=[]} w:=by
    refine ⟨hh,hwd,λt=>?_,λi q hi=>?_⟩
    · have e:vs.toArray++Array.replicate (fn.ntmps - vs.toArray.size) undef=(vs++List.replicate (fn.ntmps - vs.length) undef).toArray:=by
       simp
      show aAi S H w (lk .j (aSy 0 args) t) _
      rw [e]
      exact aQf args vs 0 t _ hargs λj v hj=>by
       rw [Nat.zero_add,List.getElem?_append_left (List.getElem?_eq_some_iff.1 hj).1];exact hj
    · have hlt:i<obs.length:=by
       have:=(List.getElem?_eq_some_iff.1 hi).1
       rw [hpl] at this;exact this
      have e:q=(H.β i,H.κ i,H.at i):=by
       simp only [aIw,List.getElem?_map] at hi
       rw [List.getElem?_range (by rw [hh];exact hlt)] at hi
       simpa using hi.symm
      subst e
      exact ⟨hlive i hlt,λs hs=>⟨rfl,rfl,hs⟩⟩
   have hw:=aN5 hT hm (N:=fn.ntmps) (ds:=[]) (B:=aIw S H w) hpl c _ _ S H _ w hrel (by simp;omega) rfl hd h
   refine wp_mono hw λe a' w' he=>?_
   obtain ⟨h1,h2,S',H',st',hr',he⟩:=he
   have fin:cBa T fn.results.toList obs.length R st'->a'.defers=[]/\∃v,(results fn a'.tmps).run P w'= .ok v w'/\∃v',Ending.returned v= .returned v'/\∃x S' H',R x H'.h/\HeapOK S' (aIw S H w) H' w'/\Kept (aIw S H w) w'/\(∀ b,S b->S' b)/\(∀ b,S' b->S b\/w.heap.size<=b\/aGt S H b)/\
    Pin (aIw S H w) H'/\aAi S' H' w' x v':=λho=>by
    obtain ⟨xs,vs',k1,k2,k3⟩:=aO0 hT hr' _ _ ho
    obtain ⟨ps,hp,hR⟩:=k1
    have hk:=aW9 hr' [] (by rw [hpl];exact hp)
    refine ⟨h2,_,bEa k3,_,rfl,_,S',H'.keep ps,?_,hk.wd.ok,hk.wd.kept,?_,λb hb=>hk.wd.bs b hb,hk.pin,aRz ps _ _ (bXk k2)⟩
    · rw [<- hr'.hh] at hR;exact hR
    · exact λb hb=>hk.wd.sup b hb
   cases e with
   |normal=>exact fin he
   |ret=>exact fin he
   |exit id=>exact he.elim
   |_=>exact he.elim
end Go.V
namespace Go.N
def aCe (c:UInt8):Bool:=decide (48<=c.toNat) && decide (c.toNat<=57)
def aC8 (l:List UInt8):Nat:=l.foldl (λr c=>10*r+(c.toNat - 48)) 0
def dg (n:Nat):UInt8:=UInt8.ofNat (48+n)
def dec (n:Nat):List UInt8:=if n<10 then [dg n] else dec (n / 10)++[dg (n % 10)]
def aEi (l:List UInt8):Bool:=l.all aCe && (decide (l.length=1) || (decide (1<l.length) && !decide (l[0]? =some 48)))
def aAx (n:Nat):ByteArray:=⟨(dec n).toArray⟩
theorem aDg (l:List UInt8):(⟨l.toArray⟩:ByteArray).toList=l:=by rw [ByteArray.toList_eq]
theorem aL8 (s:ByteArray):(⟨s.toList.toArray⟩:ByteArray)=s:=by
 rw [ByteArray.toList_eq]
theorem len_toList (s:ByteArray):s.toList.length=s.size:=by rw [ByteArray.toList_eq];rfl
theorem aBl {s t:ByteArray}(h:s.toList=t.toList):s=t:=by rw [<- aL8 s,<-aL8 t,h]
theorem aAu (n:Nat):(aAx n).toList=dec n:=aDg _
theorem aGw {n:Nat}(h:n<10):(dg n).toNat=48+n:=by unfold dg;simp;omega
theorem bE8 {n:Nat}(h:n<10):aCe (dg n)=true:=by simp [aCe,aGw h];omega
theorem bZu {c:UInt8}(h:aCe c=true):dg (c.toNat - 48)=c:=by
 simp only [aCe,Bool.and_eq_true,decide_eq_true_eq] at h
 unfold dg
 rw [show 48+(c.toNat - 48)=c.toNat by omega];simp
theorem aEy (l:List UInt8) (c:UInt8):aC8 (l++[c])=10*aC8 l+(c.toNat - 48):=by simp [aC8]
theorem bIi (l:List UInt8) (r:Nat):l.foldl (λr c=>10*r+(c.toNat - 48)) r=r*10 ^ l.length+aC8 l:=by
 induction l generalizing r with
 |nil=>simp [aC8]
 |cons c l ih=>
  simp only [List.foldl_cons,aC8,List.length_cons]
  rw [ih,ih (10*0+_)]
  rw [Nat.pow_succ,Nat.add_mul]
  have:10*r*10 ^ l.length=r*(10 ^ l.length*10):=by rw [Nat.mul_comm 10 r,Nat.mul_assoc,Nat.mul_comm 10]
  simp only [Nat.mul_zero,Nat.zero_add,this]
  omega
theorem aV3 (a b:List UInt8):aC8 (a++b)=aC8 a*10 ^ b.length+aC8 b:=by
 unfold aC8;rw [List.foldl_append];exact bIi b _
theorem aI6 (c:UInt8) (l:List UInt8):aC8 (c::l)=(c.toNat - 48)*10 ^ l.length+aC8 l:=by
 have:=aV3 [c] l
 simpa [aC8] using this
theorem aQc:∀{l:List UInt8},l.all aCe=true->aC8 l<10 ^ l.length
 |[],_=>by simp [aC8]
 |c::l,h=>by
  simp only [List.all_cons,Bool.and_eq_true] at h
  have h1:=aQc h.2
  have h2:=h.1
  simp only [aCe,Bool.and_eq_true,decide_eq_true_eq] at h2
  rw [aI6,List.length_cons,Nat.pow_succ]
  have:(c.toNat - 48)*10 ^ l.length<=9*10 ^ l.length:=Nat.mul_le_mul_right _ (by omega)
  omega
theorem aLx {n:Nat}(h:n<10):dec n=[dg n]:=by rw [dec,if_pos h]
theorem aNt {n:Nat}(h:¬n<10):dec n=dec (n / 10)++[dg (n % 10)]:=by rw [dec,if_neg h]
theorem aJ9 (n:Nat):aC8 (dec n)=n:=by
 induction n using Nat.strongRecOn with
 |_ n ih=>
  by_cases h:n<10
  · rw [aLx h];simp [aC8,aGw h]
  · rw [aNt h,aEy,ih _ (by omega),aGw (by omega)];omega
theorem aH8 (n:Nat):(dec n).all aCe=true:=by
 induction n using Nat.strongRecOn with
 |_ n ih=>
  by_cases h:n<10
  · rw [aLx h];simp [bE8 h]
  · rw [aNt h,List.all_append,ih _ (by omega)];simp [bE8 (show n % 10<10 by omega)]
theorem aEt (n:Nat):dec n≠[]:=by
 by_cases h:n<10
 · rw [aLx h];simp
 · rw [aNt h];simp
theorem bR5 (n:Nat) (h:n≠0):(dec n)[0]? ≠some 48:=by
 induction n using Nat.strongRecOn with
 |_ n ih=>
  by_cases hn:n<10
  · rw [aLx hn]
    simp only [List.getElem?_cons_zero,ne_eq,Option.some.injEq]
    intro e
    have:=aGw hn
    rw [e] at this
    simp at this;omega
  · rw [aNt hn]
    have:=ih (n / 10) (by omega) (by omega)
    have hl:=aEt (n / 10)
    rw [List.getElem?_append_left (List.length_pos_iff.2 hl)];exact this
theorem aI9 (n:Nat):aEi (dec n)=true:=by
 simp only [aEi,aH8,Bool.true_and,Bool.or_eq_true,decide_eq_true_eq,Bool.and_eq_true,Bool.not_eq_true',decide_eq_false_iff_not]
 by_cases h:n<10
 · left;rw [aLx h];rfl
 · right
   refine ⟨?_,bR5 n (by omega)⟩
   rw [aNt h]
   have:=List.length_pos_iff.2 (aEt (n / 10))
   simp;omega
theorem bE7:∀(n:Nat) (l:List UInt8),l.length=n->aEi l=true->dec (aC8 l)=l:=by
 intro n
 induction n using Nat.strongRecOn with
 |_ n ih=>
  intro l hl h
  simp only [aEi,Bool.and_eq_true,Bool.or_eq_true,decide_eq_true_eq,Bool.not_eq_true',decide_eq_false_iff_not] at h
  obtain ⟨hd,h⟩:=h
  rcases List.eq_nil_or_concat l with rfl|⟨r,c,rfl⟩
  · simp at h
  · rw [List.concat_eq_append] at*
    rw [List.all_append] at hd
    simp only [Bool.and_eq_true,List.all_cons,List.all_nil,Bool.and_true] at hd
    have hc:=hd.2
    have hc':=hc
    simp only [aCe,Bool.and_eq_true,decide_eq_true_eq] at hc'
    rw [aEy]
    cases r with
    |nil=>
     rw [aLx (by simp [aC8];omega)]
     simp [aC8,bZu hc]
    |cons d r=>
     have hd0:d≠48:=by
      rcases h with h|h
      · simp at h
      · intro e;exact h.2 (by simp [e])
     have hdd:=hd.1
     simp only [List.all_cons,Bool.and_eq_true] at hdd
     have hd1:=hdd.1
     simp only [aCe,Bool.and_eq_true,decide_eq_true_eq] at hd1
     have hdn:d.toNat≠48:=λe=>hd0 (UInt8.toNat_inj.1 (by simpa using e))
     have hpos:1<=aC8 (d::r):=by
      rw [aI6]
      have:0<10 ^ r.length:=Nat.pow_pos (by omega)
      have:1<=(d.toNat - 48)*10 ^ r.length:=Nat.mul_pos (by omega) this
      omega
     rw [aNt (by omega)]
     rw [show (10*aC8 (d::r)+(c.toNat - 48)) / 10=aC8 (d::r) by omega,show (10*aC8 (d::r)+(c.toNat - 48)) % 10=c.toNat - 48 by omega,bZu hc]
     rw [ih (d::r).length (by simp at hl ⊢;omega) (d::r) rfl]
     simp only [aEi,hd.1,Bool.true_and,Bool.or_eq_true,decide_eq_true_eq,Bool.and_eq_true,Bool.not_eq_true',decide_eq_false_iff_not]
     cases r with
     |nil=>left;rfl
     |cons e r=>right;exact ⟨by simp,by simpa using hd0⟩
theorem bMt {a b:Nat}(h:dec a=dec b):a=b:=by rw [<- aJ9 a,h,aJ9]
theorem aDu {a b:Nat}:aAx a=aAx b↔a=b:=⟨λh=>bMt (by rw [<- aAu,h,aAu]),λh=>h ▸ rfl⟩
theorem aHq {s:ByteArray}(h:aEi s.toList=true):s=aAx (aC8 s.toList):=aBl (by rw [aAu];exact (bE7 _ _ rfl h).symm)
theorem aAn (n k:Nat) (hk:0<k):(dec n).length<=k↔n<10 ^ k:=by
 induction n using Nat.strongRecOn generalizing k with
 |_ n ih=>
  by_cases h:n<10
  · rw [aLx h]
    have:10 ^ 1<=10 ^ k:=Nat.pow_le_pow_right (by omega) hk
    simp;constructor
    · intro _;omega
    · intro _;omega
  · rw [aNt h]
    obtain ⟨j,rfl⟩:∃j,k=j+1:=⟨k - 1,by omega⟩
    cases j with
    |zero=>
     have:=List.length_pos_iff.2 (aEt (n / 10))
     simp only [List.length_append,List.length_cons,List.length_nil];omega
    |succ j=>
     have:=ih (n / 10) (by omega) (j+1) (by omega)
     simp only [List.length_append,List.length_cons,List.length_nil]
     rw [show (dec (n / 10)).length+(0+1)<=j+1+1↔(dec (n / 10)).length<=j+1 by omega,this,Nat.div_lt_iff_lt_mul (by omega),<-Nat.pow_succ]
def BB:Nat:=4294967296
def aA1:List Nat->Nat
 |[]=>0
 |x::l=>x+BB*aA1 l
def lim (n:Nat):List Nat:=if n=0 then [] else n % BB::lim (n / BB)
decreasing_by exact Nat.div_lt_self (by omega) (by simp [BB])
def aBm (l:List Nat):Prop:=∀x∈l,x<BB
theorem aCi:lim 0=[]:=by rw [lim];simp
theorem aJe {n:Nat}(h:n≠0):lim n=n % BB::lim (n / BB):=by rw [lim,if_neg h]
theorem aA4 (n:Nat):aA1 (lim n)=n:=by
 induction n using Nat.strongRecOn with
 |_ n ih=>
  by_cases h:n=0
  · subst h;simp [aCi,aA1]
  · rw [aJe h,aA1,ih _ (Nat.div_lt_self (by omega) (by simp [BB]))];exact Nat.mod_add_div n BB
theorem aAz (n:Nat):aBm (lim n):=by
 induction n using Nat.strongRecOn with
 |_ n ih=>
  by_cases h:n=0
  · subst h;simp [aCi,aBm]
  · rw [aJe h]
    intro x hx
    simp only [List.mem_cons] at hx
    rcases hx with rfl|hx
    · exact Nat.mod_lt _ (by simp [BB])
    · exact ih _ (Nat.div_lt_self (by omega) (by simp [BB])) x hx
theorem aE0:∀(a b:List Nat),aA1 (a++b)=aA1 a+BB ^ a.length*aA1 b
 |[],b=>by simp [aA1]
 |x::a,b=>by
  simp only [List.cons_append,aA1,aE0 a b,List.length_cons,Nat.pow_succ]
  rw [Nat.mul_add,Nat.mul_comm (BB ^ a.length) BB,Nat.mul_assoc];omega
theorem aNh:∀{l:List Nat},aBm l->aA1 l<BB ^ l.length
 |[],_=>by simp [aA1]
 |x::l,h=>by
  have h1:=aNh (l:=l) λy hy=>h y (List.mem_cons_of_mem _ hy)
  have h2:=h x List.mem_cons_self
  simp only [aA1,List.length_cons,Nat.pow_succ]
  rw [Nat.mul_comm (BB ^ l.length)]
  have:BB*(aA1 l+1)<=BB*BB ^ l.length:=Nat.mul_le_mul_left _ h1
  rw [Nat.mul_add] at this
  omega
theorem aWv:∀{l:List Nat},aBm l->(∀ x,l.getLast? =some x->x≠0)->lim (aA1 l)=l
 |[],_,_=>by simp [aA1,aCi]
 |x::l,h,hl=>by
  have hs:aBm l:=λy hy=>h y (List.mem_cons_of_mem _ hy)
  have hx:=h x List.mem_cons_self
  have hne:aA1 (x::l)≠0:=by
   cases l with
   |nil=>simp only [aA1];have:=hl x (by simp);omega
   |cons y r=>
    have ih:=aWv (l:=y::r) hs λz hz=>hl z (by simpa using hz)
    intro e
    have:aA1 (y::r)=0:=by
     simp only [aA1] at e ⊢
     have:BB*(y+BB*aA1 r)=0:=by omega
     rcases Nat.mul_eq_zero.1 this with h|h
     · simp [BB] at h
     · exact h
    rw [this,aCi] at ih
    cases ih
  rw [aJe hne]
  have e1:aA1 (x::l) % BB=x:=by simp only [aA1,Nat.add_mul_mod_self_left];exact Nat.mod_eq_of_lt hx
  have e2:aA1 (x::l) / BB=aA1 l:=by simp only [aA1];rw [Nat.add_mul_div_left _ _ (by simp [BB])];rw [Nat.div_eq_of_lt hx];omega
  rw [e1,e2,aWv hs]
  intro z hz
  cases l with
  |nil=>simp at hz
  |cons y r=>exact hl z (by simpa using hz)
theorem bFq (n:Nat):∀x,(lim n).getLast? =some x->x≠0:=by
 induction n using Nat.strongRecOn with
 |_ n ih=>
  intro x hx
  by_cases h:n=0
  · subst h;simp [aCi] at hx
  · rw [aJe h] at hx
    by_cases h2:n / BB=0
    · rw [h2,aCi] at hx
      simp at hx
      have:=Nat.mod_add_div n BB
      rw [h2] at this
      omega
    · have hne:lim (n / BB)≠[]:=by rw [aJe h2];simp
      rw [List.getLast?_cons_of_ne_nil hne] at hx
      exact ih _ (Nat.div_lt_self (by omega) (by simp [BB])) x hx
theorem bIs (k:Nat):aA1 (List.replicate k 0)=0:=by
 induction k with
 |zero=>rfl
 |succ k ih=>simp [List.replicate_succ,aA1,ih]
theorem bW9 {a b:Nat}(h:lim a=lim b):a=b:=by rw [<- aA4 a,h,aA4]
theorem aCy (n k:Nat):(lim n).length<=k↔n<BB ^ k:=by
 induction n using Nat.strongRecOn generalizing k with
 |_ n ih=>
  by_cases h:n=0
  · subst h;simp [aCi];exact Nat.pow_pos (by simp [BB])
  · rw [aJe h]
    cases k with
    |zero=>simp;omega
    |succ k=>
     simp only [List.length_cons,Nat.add_le_add_iff_right]
     rw [ih _ (Nat.div_lt_self (by omega) (by simp [BB])),Nat.div_lt_iff_lt_mul (by simp [BB]),<-Nat.pow_succ]
theorem aKm {l:List Nat}(h:aBm l) (k:Nat):aBm (l.take k):=λx hx=>h x (List.mem_of_mem_take hx)
theorem aFe (l:List Nat) (x:Nat):aA1 (l++[x])=aA1 l+BB ^ l.length*x:=by rw [aE0];simp [aA1]
theorem aUe {l:List Nat}{k:Nat}(hk:k<l.length) (h:l[k]=0):aA1 (l.take (k+1))=aA1 (l.take k):=by
 rw [List.take_succ_eq_append_getElem hk,aFe,h];simp
theorem bFr {l:List Nat}(hs:aBm l){k:Nat}(hk:k<l.length) (h:l[k]≠0):lim (aA1 (l.take (k+1)))=l.take (k+1):=
 aWv (aKm hs _) λx hx=>by
  rw [List.take_succ_eq_append_getElem hk,List.getLast?_concat,Option.some.injEq] at hx
  rw [<- hx];exact h
theorem aA9 {a b:List Nat}(ha:aBm a) (hb:aBm b):aBm (a++b):=λx hx=>(List.mem_append.1 hx).elim (ha x) (hb x)
theorem aBf {l:List Nat}{k:Nat}(hk:k<l.length):aA1 (l.take (k+1))=aA1 (l.take k)+BB ^ k*l[k]:=by
 rw [List.take_succ_eq_append_getElem hk,aFe,List.length_take,Nat.min_eq_left (by omega)]
theorem aRp {l:List Nat}{k:Nat}(hk:k<l.length):aA1 (l.drop k)=l[k]+BB*aA1 (l.drop (k+1)):=by
 rw [List.drop_eq_getElem_cons hk];rfl
theorem aHs (l:List Nat) (k:Nat) (hk:k<=l.length):aA1 l=aA1 (l.take k)+BB ^ k*aA1 (l.drop k):=by
 conv=>lhs;rw [<- List.take_append_drop k l,aE0]
 rw [List.length_take,Nat.min_eq_left hk]
theorem aId {m n:Nat}(h:(lim m).length<(lim n).length):m<n:=by
 have h1:=(aCy m ((lim n).length - 1)).1 (by omega)
 have h2:¬n<BB ^ ((lim n).length - 1):=λhh=>by
  have:=(aCy n ((lim n).length - 1)).2 hh
  omega
 omega
theorem aKc {a b:Nat}(h:a<=b):(lim a).length<=(lim b).length:=by
 by_cases hh:(lim b).length<(lim a).length
 · have:=aId hh;omega
 · omega
theorem aUd {a b:List Nat}(ha:aBm a) (hb:aBm b){k:Nat}(ka:k<a.length) (kb:k<b.length) (hlen:a.length=b.length) (h:a[k]<b[k]) (hd:a.drop (k+1)=b.drop (k+1)):aA1 a<aA1 b:=by
 rw [aHs a (k+1) (by omega),aHs b (k+1) (by omega),hd,aBf ka,aBf kb]
 have h1:=aNh (aKm ha k)
 rw [List.length_take,Nat.min_eq_left (by omega)] at h1
 have h2:BB ^ k*(a[k]+1)<=BB ^ k*b[k]:=Nat.mul_le_mul_left _ h
 rw [Nat.mul_add] at h2
 omega
end Go.N
namespace Go.N
def dig (n i:Nat):Nat:=n / 10 ^ i % 10
theorem aI5 (n i:Nat):dig n i<10:=Nat.mod_lt _ (by omega)
theorem aFv (n i:Nat):n % 10 ^ (i+1)=n % 10 ^ i+10 ^ i*dig n i:=Nat.mod_pow_succ
theorem bR4 (n:Nat):∀i,i<(dec n).length->(dec n)[(dec n).length - 1 - i]? =some (dg (dig n i)):=by
 induction n using Nat.strongRecOn with
 |_ n ih=>
  intro i hi
  by_cases h:n<10
  · rw [aLx h] at hi ⊢
    simp only [List.length_cons,List.length_nil] at hi
    obtain rfl:i=0:=by omega
    simp [dig,Nat.mod_eq_of_lt h]
  · rw [aNt h] at hi ⊢
    simp only [List.length_append,List.length_cons,List.length_nil] at hi ⊢
    cases i with
    |zero=>
     rw [List.getElem?_append_right (by omega)]
     simp [dig]
    |succ i=>
     rw [List.getElem?_append_left (by omega)]
     have:=ih (n / 10) (by omega) i (by omega)
     rw [show (dec (n / 10)).length+(0+1) - 1 - (i+1)=(dec (n / 10)).length - 1 - i by omega,this]
     simp only [dig,Nat.div_div_eq_div_mul]
     rw [Nat.pow_succ,Nat.mul_comm 10]
theorem aHr (n:Nat):n<10 ^ (dec n).length:=(aAn n _ (List.length_pos_iff.2 (aEt n))).1 (Nat.le_refl _)
theorem bZv {n i:Nat}(h:(dec n).length<=i):dig n i=0:=by
 unfold dig
 rw [Nat.div_eq_of_lt (Nat.lt_of_lt_of_le (aHr n) (Nat.pow_le_pow_right (by omega) h))]
def aFr:List Nat->Nat
 |[]=>0
 |x::l=>x+10*aFr l
theorem aDo:∀(l:List Nat) (x:Nat),aFr (l++[x])=aFr l+10 ^ l.length*x
 |[],x=>by simp [aFr]
 |y::l,x=>by
  simp only [List.cons_append,aFr,aDo l x,List.length_cons,Nat.pow_succ]
  rw [Nat.mul_add,Nat.mul_comm (10 ^ l.length) 10,Nat.mul_assoc];omega
theorem aV4:∀(l:List Nat),(∀ x∈l,x<10)->aC8 (l.reverse.map dg)=aFr l
 |[],_=>rfl
 |x::l,h=>by
  rw [List.reverse_cons,List.map_append,List.map_cons,List.map_nil,aEy,aV4 l λy hy=>h y (List.mem_cons_of_mem _ hy),aGw (h x List.mem_cons_self)]
  simp only [aFr];omega
theorem bNp:∀{l:List Nat},(∀ x∈l,x<10)->aFr l<10 ^ l.length
 |[],_=>by simp [aFr]
 |x::l,h=>by
  have h1:=bNp (l:=l) λy hy=>h y (List.mem_cons_of_mem _ hy)
  have h2:=h x List.mem_cons_self
  simp only [aFr,List.length_cons,Nat.pow_succ];omega
theorem bOk {l:List Nat}(h:∀x∈l,x<10):(l.reverse.map dg).all aCe=true:=by
 simp only [List.all_eq_true,List.mem_map,List.mem_reverse]
 rintro c ⟨x,hx,rfl⟩
 exact bE8 (h x hx)
theorem aWb {l:List UInt8}(h:l.all aCe=true) (h1:l≠[]) (h2:l.length=1\/l[0]? ≠some 48):aEi l=true:=by
 have:=List.length_pos_iff.2 h1
 simp only [aEi,h,Bool.true_and,Bool.or_eq_true,decide_eq_true_eq,Bool.and_eq_true,Bool.not_eq_true',decide_eq_false_iff_not]
 by_cases h3:l.length=1
 · exact .inl h3
 · exact .inr ⟨by omega,h2.resolve_left h3⟩
theorem aKq:∀(a b:List UInt8),a.all aCe=true->b.all aCe=true->a.length=b.length->(Op.bytesLess a b=true↔aC8 a<aC8 b)
 |[],[],_,_,_=>by simp [Op.bytesLess,aC8]
 |[],_::_,_,_,h=>by simp at h
 |_::_,[],_,_,h=>by simp at h
 |x::a,y::b,ha,hb,hl=>by
  simp only [List.all_cons,Bool.and_eq_true] at ha hb
  have ih:=aKq a b ha.2 hb.2 (by simpa using hl)
  have la:=aQc ha.2
  have lb:=aQc hb.2
  have hl':a.length=b.length:=by simpa using hl
  rw [hl'] at la
  have hx:=ha.1
  have hy:=hb.1
  simp only [aCe,Bool.and_eq_true,decide_eq_true_eq] at hx hy
  rw [aI6,aI6,hl']
  have hxy:(x<y)↔x.toNat<y.toNat:=Iff.rfl
  have hxe:(x=y)↔x.toNat=y.toNat:=⟨λe=>e ▸ rfl,UInt8.toNat_inj.1⟩
  simp only [Op.bytesLess,Bool.or_eq_true,decide_eq_true_eq,Bool.and_eq_true,beq_iff_eq,ih,hxy,hxe]
  rcases Nat.lt_trichotomy x.toNat y.toNat with h1|h1|h1
  · have:(x.toNat - 48+1)*10 ^ b.length<=(y.toNat - 48)*10 ^ b.length:=Nat.mul_le_mul_right _ (by omega)
    rw [Nat.add_mul] at this
    omega
  · rw [h1];omega
  · have:(y.toNat - 48+1)*10 ^ b.length<=(x.toNat - 48)*10 ^ b.length:=Nat.mul_le_mul_right _ (by omega)
    rw [Nat.add_mul] at this
    omega
theorem aFt {m n:Nat}(h:(dec m).length<(dec n).length):m<n:=by
 have h1:=(aAn m ((dec n).length - 1) (by have:=List.length_pos_iff.2 (aEt m);omega)).1 (by omega)
 have h2:¬n<10 ^ ((dec n).length - 1):=λhh=>by
  have:=(aAn n ((dec n).length - 1) (by have:=List.length_pos_iff.2 (aEt m);omega)).2 hh
  omega
 omega
theorem aZz {l:List UInt8}{c:UInt8}(hc:c∈l) (h:aCe c=false):aEi l=false:=by
 have:l.all aCe=false:=by rw [List.all_eq_false];exact ⟨c,hc,by simp [h]⟩
 simp [aEi,this]
theorem aB3 (s:ByteArray) (a b:Nat):(s.extract a b).toList=(s.toList.drop a).take (b - a):=by
 rw [ByteArray.toList_eq,ByteArray.toList_eq,ByteArray.data_extract,Array.toList_extract,List.extract_eq_take_drop]
theorem aJz (s t:ByteArray):(s++t).toList=s.toList++t.toList:=by
 rw [ByteArray.toList_eq,ByteArray.toList_eq,ByteArray.toList_eq,ByteArray.data_append,Array.toList_append]
theorem aBw {a b:Nat}(h:a<=b):(dec a).length<=(dec b).length:=by
 by_cases hh:(dec b).length<(dec a).length
 · have:=aFt hh;omega
 · omega
theorem bWc {a b:Nat}(h:a<10*b) (hb:0<b):(dec a).length<=(dec b).length+1:=by
 rw [aAn _ _ (by omega),Nat.pow_succ]
 have:=aHr b
 omega
theorem aQd (l:List UInt8) (i:Nat) (h:i<l.length):aC8 (l.take (i+1))=10*aC8 (l.take i)+(l[i].toNat - 48):=by
 rw [List.take_succ_eq_append_getElem h,aEy]
theorem aBb (n:Nat):(lim n).length=0↔n=0:=by
 by_cases h:n=0
 · subst h;simp [aCi]
 · rw [aJe h];simp [h]
theorem aBd (n:Nat):(lim n).length<=(dec n).length:=
 (aCy n _).2 (Nat.lt_of_lt_of_le (aHr n) (Nat.pow_le_pow_left (by simp [BB]) _))
theorem bNo {l:List Nat}{x:Nat}(hx:x≠0):10 ^ l.length<=aFr (l++[x]):=by
 rw [aDo]
 have:10 ^ l.length*1<=10 ^ l.length*x:=Nat.mul_le_mul_left _ (by omega)
 omega
theorem aV2 {ds:List Nat}(h:∀x∈ds,x<10) (hne:∃l x,ds=l++[x]/\x≠0):ds.reverse.map dg=dec (aFr ds):=by
 obtain ⟨l,x,rfl,hx⟩:=hne
 have hx10:=h x (by simp)
 have hn:aEi ((l++[x]).reverse.map dg)=true:=aWb (bOk h) (by simp) (.inr (by
  simp only [List.reverse_append,List.reverse_cons,List.reverse_nil,List.nil_append,List.map_append,List.map_cons,List.map_nil,List.singleton_append,List.getElem?_cons_zero,ne_eq,Option.some.injEq]
  intro e
  have:=aGw hx10
  rw [e] at this
  simp at this;omega))
 rw [<- aV4 _ h,bE7 _ _ rfl hn]
end Go.N
namespace Go.V
open Go.N Go.Proofs
theorem cCl {n:Int}(h: -9223372036854775808<=n) (h2:n<=9223372036854775807):n=IntKind.wrap .i64 n:=by
 simp only [IntKind.wrap,IntKind.bits,IntKind.signed];simp;omega
theorem cDa {n:Int}(h: -2147483648<=n) (h2:n<=2147483647):n=IntKind.wrap .i32 n:=by
 simp only [IntKind.wrap,IntKind.bits,IntKind.signed];simp;omega
theorem bYb {n:Int}(h:0<=n) (h2:n<18446744073709551616):n=IntKind.wrap .u64 n:=by
 simp only [IntKind.wrap,IntKind.bits,IntKind.signed];simp;omega
theorem cDb {n:Int}(h:0<=n) (h2:n<4294967296):n=IntKind.wrap .u32 n:=by
 simp only [IntKind.wrap,IntKind.bits,IntKind.signed];simp;omega
theorem wu8 {n:Int}(h:0<=n) (h2:n<256):n=IntKind.wrap .u8 n:=by
 simp only [IntKind.wrap,IntKind.bits,IntKind.signed];simp;omega
theorem cCm {n:Int}:n % 4294967296=IntKind.wrap .u32 n:=by
 simp only [IntKind.wrap,IntKind.bits,IntKind.signed];simp
theorem bOq (l:List Int):(sN l).toList=l.map λn=>UInt8.ofNat n.toNat:=by
 have:∀(l:List Int) (r:ByteArray),(l.foldl (λr n=>r.push (UInt8.ofNat n.toNat)) r).toList=r.toList++l.map λn=>UInt8.ofNat n.toNat:=λl=>by
  induction l with
  |nil=>intro r;simp
  |cons x l ih=>
   intro r
   rw [List.foldl_cons,ih]
   have:(r.push (UInt8.ofNat x.toNat)).toList=r.toList++[UInt8.ofNat x.toNat]:=by
    rw [ByteArray.toList_eq,ByteArray.toList_eq];simp
   rw [this];simp
 have h:=this l ByteArray.empty
 have e:ByteArray.empty.toList=[]:=by rw [ByteArray.toList_eq];rfl
 rw [e] at h
 simpa [sN] using h
theorem Nt {p:Prop}[Decidable p] (h:(!decide p)=true):¬p:=by simpa using h
theorem Nf {p:Prop}[Decidable p] (h:(!decide p)=false):p:=by simpa using h
def aZo (m n:Nat):Int:=if m<n then -1 else if n<m then 1 else 0
theorem aH7 {m n:Nat}(h:m<n):aZo m n= -1:=by simp [aZo,h]
theorem aP8 {m n:Nat}(h:n<m):aZo m n=1:=by simp [aZo,h];omega
theorem bMq {m n:Nat}(h:n=m):aZo m n=0:=by simp [aZo,h]
theorem aI4 {m n:Nat}:0<=aZo m n↔n<=m:=by unfold aZo;split<;>(try split)<;>omega
theorem aAq (n:Nat):(aAx n).size=(dec n).length:=by rw [<- aAu,Go.N.len_toList]
theorem aV0 (n:Nat):(aAx n).toList.all aCe=true:=by rw [aAu];exact aH8 n
theorem aF7 (n:Nat):aC8 (aAx n).toList=n:=by rw [aAu,aJ9]
theorem aUp {t:ByteArray}(h:t=⟨#[]⟩):t.toList=[]:=by subst h;rw [ByteArray.toList_eq]
theorem aB8:(⟨#[48]⟩:ByteArray)=aAx 0:=by decide +kernel
theorem bF0 {t:ByteArray}(h:aEi t.toList=true):t=aAx (aC8 t.toList):=aHq h
def aFn (l:List Nat):List (List AV):=l.map λ(x:Nat)=>[.int .i64 (x:Int)]
def aDy (l:List Nat):List (List AV):=l.map λ(x:Nat)=>[.int .u8 (x:Int)]
def aAb (l:List Nat):List (List AV):=l.map λ(x:Nat)=>[.int .u32 (x:Int)]
@[simp] theorem ints_length (l:List Nat):(aFn l).length=l.length:=by simp [aFn]
@[simp] theorem byts_length (l:List Nat):(aDy l).length=l.length:=by simp [aDy]
@[simp] theorem limbs_length (l:List Nat):(aAb l).length=l.length:=by simp [aAb]
theorem aOn {l:List Nat}{k:Nat}(h:k<l.length):(aFn l)[k]? =some [.int .i64 ((l[k]:Nat):Int)]:=by simp [aFn,h]
theorem aVm {l:List Nat}{k:Nat}(h:k<l.length):(aDy l)[k]? =some [.int .u8 ((l[k]:Nat):Int)]:=by simp [aDy,h]
theorem aBe {l:List Nat}{k:Nat}(h:k<l.length):(aAb l)[k]? =some [.int .u32 ((l[k]:Nat):Int)]:=by simp [aAb,h]
theorem bSh (l:List Nat) (x:Nat):aFn l++[[.int .i64 (x:Int)]]=aFn (l++[x]):=by simp [aFn]
theorem bRd (l:List Nat) (x:Nat):aDy l++[[.int .u8 (x:Int)]]=aDy (l++[x]):=by simp [aDy]
theorem bNk (l:List Nat) (x:Nat):aAb l++[[.int .u32 (x:Int)]]=aAb (l++[x]):=by simp [aAb]
theorem bEu (l:List Nat):aDy l=(l.map λ(x:Nat)=>(x:Int)).map (λb=>[.int .u8 b]):=by simp [aDy]
theorem bLr (l:List Nat):List.take (aDy l).length (List.drop 0 (aDy l))=(l.map λ(x:Nat)=>(x:Int)).map (λb=>[.int .u8 b]):=by rw [List.drop_zero,List.take_length,bEu]
theorem aR4 (l:List Nat) (_:∀x∈l,x<10):(sN ((l.map (48+ ·)).map λ(x:Nat)=>(x:Int))).toList=l.map dg:=by
 rw [bOq,List.map_map,List.map_map]
 refine List.map_congr_left λa _=>?_
 show UInt8.ofNat ((48+a:Nat):Int).toNat=_
 rw [Int.toNat_natCast];rfl
theorem aZy (l:List Nat) (x:Nat):aFn (l++[x])=(aFn l).take (aFn l).length++[[.int .i64 (x:Int)]]:=by rw [List.take_length,bSh]
theorem aY1 (l:List Nat) (x:Nat):aDy (l++[x])=(aDy l).take (aDy l).length++[[.int .u8 (x:Int)]]:=by rw [List.take_length,bRd]
theorem aUc (l:List Nat) (x:Nat):aAb (l++[x])=(aAb l).take (aAb l).length++[[.int .u32 (x:Int)]]:=by rw [List.take_length,bNk]
theorem aT6 (l:List Nat) (x:Nat){e:Int}(h:e=x):aFn (l++[x])=(aFn l).take (aFn l).length++[[.int .i64 e]]:=by rw [h,aZy]
theorem aJ3 (l:List Nat) (x:Nat){e:Int}(h:e=x):aDy (l++[x])=(aDy l).take (aDy l).length++[[.int .u8 e]]:=by rw [h,aY1]
theorem aDn (l:List Nat) (x:Nat){e:Int}(h:e=x):aAb (l++[x])=(aAb l).take (aAb l).length++[[.int .u32 e]]:=by rw [h,aUc]
theorem bFk (x:Nat){e:Int}(h:e=x):aFn [x]=[[.int .i64 e]]:=by rw [h];rfl
theorem aCf (l:List Nat) (k:Nat):(aAb l).take k=aAb (l.take k):=by simp [aAb]
theorem aD0 (l:List Nat) (j v:Nat){e:Int}(h:e=v):(aAb l).set j [.int .u32 e]=aAb (l.set j v):=by rw [h];simp [aAb,List.map_set]
theorem cAy (x y:Nat) (h:y<4294967296):(x*4294967296) ||| y=x*4294967296+y:=by
 have:=Nat.two_pow_add_eq_or_of_lt (i:=32) (b:=y) (by simpa using h) x
 rw [show (2:Nat) ^ 32=4294967296 from rfl] at this
 rw [Nat.mul_comm x,<-this]
theorem bI4 (a:Nat) (h:a<4294967296):((a*4294967296:Nat):Int)=IntKind.wrap .u64 ((a:Int)*2 ^ (min (Int.toNat 32) (IntKind.bits .u64))):=by
 have e:(2:Int) ^ (min (Int.toNat 32) (IntKind.bits .u64))=4294967296:=by decide
 rw [e,<-bYb (by omega) (by omega)];omega
theorem cCy (a b:Nat) (ha:a<4294967296) (hb:b<4294967296):((a*4294967296+b:Nat):Int)=IntKind.wrap .u64 (((((a*4294967296:Nat):Int).toNat ||| ((b:Nat):Int).toNat:Nat)):Int):=by
 rw [Int.toNat_natCast,Int.toNat_natCast,cAy a b hb,<-bYb (by omega) (by omega)]
theorem aTe (a b:Nat) (ha:a<18446744073709551616):((a / b:Nat):Int)=IntKind.wrap .u64 (Int.tdiv (a:Int) (b:Int)):=by
 have h:a / b<=a:=Nat.div_le_self a b
 rw [<- Int.ofNat_tdiv]
 generalize a / b=q at h
 exact bYb (by omega) (by omega)
theorem aXa (a b:Nat):((a % b:Nat):Int)=Int.tmod (a:Int) (b:Int):=Int.ofNat_tmod a b
theorem Xe {α:Type}{a:α}{K:α->Prop}(k:K a):∃r,r=a/\K r:=⟨a,rfl,k⟩
theorem bZ0 {n:Int}{K:Int->Prop}(h: -9223372036854775808<=n) (h2:n<=9223372036854775807) (k:K n):∃r,r=IntKind.wrap .i64 n/\K r:=⟨n,cCl h h2,k⟩
theorem bZz {n:Int}{K:Int->Prop}(h: -2147483648<=n) (h2:n<=2147483647) (k:K n):∃r,r=IntKind.wrap .i32 n/\K r:=⟨n,cDa h h2,k⟩
theorem bZ4 {n:Int}{K:Int->Prop}(h:0<=n) (h2:n<18446744073709551616) (k:K n):∃r,r=IntKind.wrap .u64 n/\K r:=⟨n,bYb h h2,k⟩
theorem cB1 {n:Int}{K:Int->Prop}(h:0<=n) (h2:n<256) (k:K n):∃r,r=IntKind.wrap .u8 n/\K r:=⟨n,wu8 h h2,k⟩
theorem Xm {n:Int}{K:Int->Prop}(k:K (n % 4294967296)):∃r,r=IntKind.wrap .u32 n/\K r:=⟨_,cCm,k⟩
theorem bZ2 {n len:Nat}{K:Nat->Prop}(h:n<len) (k:K n):∃m:Nat,(n:Int)=(m:Int)/\m<len/\K m:=⟨n,rfl,h,k⟩
theorem bWk {len:Nat}{K:Nat->Prop}(h:0<len) (k:K 0):∃m:Nat,(0:Int)=(m:Int)/\m<len/\K m:=⟨0,rfl,h,k⟩
theorem bZ3 {l:List UInt8}{n:Nat}{K:UInt8->Prop}(h:n<l.length) (k:K l[n]):∃(m:Nat) (c:UInt8),(n:Int)=(m:Int)/\l[m]? =some c/\K c:=⟨n,l[n],rfl,List.getElem?_eq_getElem h,k⟩
theorem bWl {l:List UInt8}{K:UInt8->Prop}(h:0<l.length) (k:K l[0]):∃(m:Nat) (c:UInt8),(0:Int)=(m:Int)/\l[m]? =some c/\K c:=⟨0,l[0],rfl,List.getElem?_eq_getElem h,k⟩
theorem bWm {l:List UInt8}{i:Int}{K:UInt8->Prop}(h0:0<=i) (h:i.toNat<l.length) (k:K l[i.toNat]):∃(m:Nat) (c:UInt8),i=(m:Int)/\l[m]? =some c/\K c:=⟨i.toNat,l[i.toNat],(Int.toNat_of_nonneg h0).symm,List.getElem?_eq_getElem h,k⟩
theorem bWj {l:List Nat}{n:Nat}{K:List AV->Prop}(h:n<l.length) (k:K [.int .i64 ((l[n]:Nat):Int)]):∃(m:Nat) (c:List AV),(n:Int)=(m:Int)/\(aFn l)[m]? =some c/\K c:=⟨n,_,rfl,aOn h,k⟩
theorem bR9 {l:List Nat}{n:Nat}{K:List AV->Prop}(h:n<l.length) (k:K [.int .u32 ((l[n]:Nat):Int)]):∃(m:Nat) (c:List AV),(n:Int)=(m:Int)/\(aAb l)[m]? =some c/\K c:=⟨n,_,rfl,aBe h,k⟩
theorem bWi {l:List Nat}{n:Nat}{K:List AV->Prop}(h:n<l.length) (k:K [.int .u8 ((l[n]:Nat):Int)]):∃(m:Nat) (c:List AV),(n:Int)=(m:Int)/\(aDy l)[m]? =some c/\K c:=⟨n,_,rfl,aVm h,k⟩
theorem bR8 {l:List Nat}{K:List AV->Prop}(h:0<l.length) (k:K [.int .i64 ((l[0]:Nat):Int)]):∃(m:Nat) (c:List AV),(0:Int)=(m:Int)/\(aFn l)[m]? =some c/\K c:=⟨0,_,rfl,aOn h,k⟩
theorem bM1 {l:List Nat}{K:List AV->Prop}(h:0<l.length) (k:K [.int .u32 ((l[0]:Nat):Int)]):∃(m:Nat) (c:List AV),(0:Int)=(m:Int)/\(aAb l)[m]? =some c/\K c:=⟨0,_,rfl,aBe h,k⟩
theorem bZy {s:ByteArray}{a b:Int}{K:ByteArray->Prop}(h1:0<=a) (h2:a<=b) (h3:b<=(s.size:Int)) (k:K (s.extract a.toNat b.toNat)):0<=a/\a<=b/\b<=(s.size:Int)/\∃r,r=s.extract a.toNat b.toNat/\K r:=⟨h1,h2,h3,_,rfl,k⟩
theorem Xo {es:List (List AV)}{n:Nat}{c:List AV}{K:List AV->Prop}(h:es[n]? =some c) (k:K c):∃x,es[n]? =some x/\K x:=⟨c,h,k⟩
theorem Xa {α:Type}{a:α}{K:Prop}(k:K):a=a/\K:=⟨rfl,k⟩
theorem aEc {e sz:Nat}(l:List Nat):aIr (.fr e sz (aAb l)):=by
 simp only [aIr,aAb,List.mem_map]
 rintro cs ⟨x,_,rfl⟩
 simp [aH3,aIr]
theorem aPm {l:List UInt8}(h:l.all aCe=true){i:Nat}(hi:i<l.length):48<=l[i].toNat/\l[i].toNat<=57:=by
 have:=List.all_eq_true.1 h _ (List.getElem_mem hi)
 simpa [aCe] using this
theorem bEt (l:List Nat) (j v:Nat){e:Int}(h:e=v):(aDy l).set j [.int .u8 e]=aDy (l.set j v):=by rw [h];simp [aDy,List.map_set]
theorem aZt {x y:AV}(hx:aIr x) (hy:aIr y):aIr (.tup [x,y]):=by simp only [aIr,aH3];exact ⟨hx,hy,trivial⟩
theorem bFc {k:IntKind}{n:Int}:aIr (.int k n):=by simp [aIr]
theorem bZ1 {a:Nat}{c:Int}{K:Int->Prop}(hc:0<=c) (k:K ((min a c.toNat:Nat):Int)):∃r,r=(if c<((a:Nat):Int) then c else ((a:Nat):Int))/\K r:=by
 refine ⟨_,rfl,?_⟩
 have e:(if c<((a:Nat):Int) then c else ((a:Nat):Int))=((min a c.toNat:Nat):Int):=by split<;>omega
 rw [e];exact k
theorem dt {p:Prop}[Decidable p] (h:decide p=true):p:=of_decide_eq_true h
theorem df {p:Prop}[Decidable p] (h:decide p=false):¬p:=of_decide_eq_false h
theorem xi {n:Int}{K:Int->Prop}(h: -9223372036854775808<=n/\n<=9223372036854775807) (k:K n):∃r,r=IntKind.wrap .i64 n/\K r:=bZ0 h.1 h.2 k
theorem x3 {n:Int}{K:Int->Prop}(h: -2147483648<=n/\n<=2147483647) (k:K n):∃r,r=IntKind.wrap .i32 n/\K r:=bZz h.1 h.2 k
theorem xu {n:Int}{K:Int->Prop}(h:0<=n/\n<18446744073709551616) (k:K n):∃r,r=IntKind.wrap .u64 n/\K r:=bZ4 h.1 h.2 k
theorem x8 {n:Int}{K:Int->Prop}(h:0<=n/\n<256) (k:K n):∃r,r=IntKind.wrap .u8 n/\K r:=cB1 h.1 h.2 k
theorem xn {a:Nat}{c:Int}{K:Int->Prop}(hc:0<=c) (k:K ((min a c.toNat:Nat):Int)):∃r,r=(if c<((a:Nat):Int) then c else ((a:Nat):Int))/\K r:=bZ1 hc k
theorem xp {n len:Nat}{K:Nat->Prop}(h:n<len) (k:K n):∃m:Nat,(n:Int)=(m:Int)/\m<len/\K m:=bZ2 h k
theorem xP {len:Nat}{K:Nat->Prop}(h:0<len) (k:K 0):∃m:Nat,(0:Int)=(m:Int)/\m<len/\K m:=bWk h k
theorem xs {l:List UInt8}{n:Nat}{K:UInt8->Prop}(h:n<l.length) (k:K l[n]):∃(m:Nat) (c:UInt8),(n:Int)=(m:Int)/\l[m]? =some c/\K c:=bZ3 h k
theorem xS {l:List UInt8}{K:UInt8->Prop}(h:0<l.length) (k:K l[0]):∃(m:Nat) (c:UInt8),(0:Int)=(m:Int)/\l[m]? =some c/\K c:=bWl h k
theorem xZ {l:List UInt8}{i:Int}{K:UInt8->Prop}(h:0<=i/\i.toNat<l.length) (k:K (l[i.toNat]'h.2)):∃(m:Nat) (c:UInt8),i=(m:Int)/\l[m]? =some c/\K c:=bWm h.1 h.2 k
theorem xd {l:List Nat}{n:Nat}{K:List AV->Prop}(h:n<l.length) (k:K [.int .i64 ((l[n]:Nat):Int)]):∃(m:Nat) (c:List AV),(n:Int)=(m:Int)/\(aFn l)[m]? =some c/\K c:=bWj h k
theorem xl {l:List Nat}{n:Nat}{K:List AV->Prop}(h:n<l.length) (k:K [.int .u32 ((l[n]:Nat):Int)]):∃(m:Nat) (c:List AV),(n:Int)=(m:Int)/\(aAb l)[m]? =some c/\K c:=bR9 h k
theorem xy {l:List Nat}{n:Nat}{K:List AV->Prop}(h:n<l.length) (k:K [.int .u8 ((l[n]:Nat):Int)]):∃(m:Nat) (c:List AV),(n:Int)=(m:Int)/\(aDy l)[m]? =some c/\K c:=bWi h k
theorem xD {l:List Nat}{K:List AV->Prop}(h:0<l.length) (k:K [.int .i64 ((l[0]:Nat):Int)]):∃(m:Nat) (c:List AV),(0:Int)=(m:Int)/\(aFn l)[m]? =some c/\K c:=bR8 h k
theorem xL {l:List Nat}{K:List AV->Prop}(h:0<l.length) (k:K [.int .u32 ((l[0]:Nat):Int)]):∃(m:Nat) (c:List AV),(0:Int)=(m:Int)/\(aAb l)[m]? =some c/\K c:=bM1 h k
theorem xx {s:ByteArray}{a b:Int}{K:ByteArray->Prop}(h:0<=a/\a<=b/\b<=(s.size:Int)) (k:K (s.extract a.toNat b.toNat)):0<=a/\a<=b/\b<=(s.size:Int)/\∃r,r=s.extract a.toNat b.toNat/\K r:=bZy h.1 h.2.1 h.2.2 k
theorem Xg {es:List (List AV)}{n:Nat}{c:List AV}{K:List AV->Prop}(h:es[n]? =some c) (k:K c):∃(m:Nat) (x:List AV),(n:Int)=(m:Int)/\es[m]? =some x/\K x:=⟨n,c,rfl,h,k⟩
structure Bx (q:Prop):Prop where
 out:q
theorem sW {p q:Prop}(k:Bx q) (h:Bx q->p:=by
 intro k
 ((conv=>whnf);first|(with_reducible first|apply Xa|(first|apply xi|apply xu|apply x8|apply x3|apply xn|apply xp|apply xP|refine xs ?_ ?_|refine xS ?_ ?_|refine xZ ?_ ?_|refine xl ?_ ?_|refine xd ?_ ?_|refine xy ?_ ?_|refine xL ?_ ?_|refine xD ?_ ?_|apply xx);omega|apply Xm|apply Xe)|refine Xo (by assumption) ?_|refine Or.inl ⟨rfl,?_⟩)
 repeat' ((conv=>whnf);first|(with_reducible first|apply Xa|(first|apply xi|apply xu|apply x8|apply x3|apply xn|apply xp|apply xP|refine xs ?_ ?_|refine xS ?_ ?_|refine xZ ?_ ?_|refine xl ?_ ?_|refine xd ?_ ?_|refine xy ?_ ?_|refine xL ?_ ?_|refine xD ?_ ?_|apply xx);omega|apply Xm|apply Xe)|refine Xo (by assumption) ?_|refine Or.inl ⟨rfl,?_⟩)
 exact k.out):p:=h k
theorem sX {p q:Prop}(k:Bx q) (h:Bx q->p:=by
 intro k
 ((conv=>whnf);first|(with_reducible first|apply Xa|(first|apply xi|apply xu|apply x8|apply x3|apply xn|apply xp|apply xP|refine xs ?_ ?_|refine xS ?_ ?_|refine xZ ?_ ?_|refine xl ?_ ?_|refine xd ?_ ?_|refine xy ?_ ?_|refine xL ?_ ?_|refine xD ?_ ?_|apply xx);omega|apply Xm|apply Xe|refine Xg (by assumption) ?_)|refine Xo (by assumption) ?_|refine Or.inl ⟨rfl,?_⟩)
 repeat' ((conv=>whnf);first|(with_reducible first|apply Xa|(first|apply xi|apply xu|apply x8|apply x3|apply xn|apply xp|apply xP|refine xs ?_ ?_|refine xS ?_ ?_|refine xZ ?_ ?_|refine xl ?_ ?_|refine xd ?_ ?_|refine xy ?_ ?_|refine xL ?_ ?_|refine xD ?_ ?_|apply xx);omega|apply Xm|apply Xe|refine Xg (by assumption) ?_)|refine Xo (by assumption) ?_|refine Or.inl ⟨rfl,?_⟩)
 exact k.out):p:=h k
theorem sp {p c d q r:Prop}(k:c->Bx q) (l:d->Bx r) (h:(c->Bx q)->(d->Bx r)->p:=by
 intro k l
 conv=>whnf
 split<;>(first|(rename_i u h;clear u)|rename_i h)<;>(try rewrite [h])<;>(first|replace h:=dt h|replace h:=df h|replace h:=Nt h|replace h:=Nf h|skip)
 · exact (k h).out
 · exact (l h).out):p:=h k l
end Go.V
namespace Go.V
theorem aA3 {P:Program}{t:TypeId}{i:TypeInfo}{z:Value}{s b:Nat}(h:P.types[t]? =some i) (e:(i.zero,i.size,i.bytes)=(some z,s,b)):(P.info? t).map (λi=>(i.zero,i.size,i.bytes))=some (some z,s,b):=by
 have hlt:t<P.types.size:=(Array.getElem?_eq_some_iff.1 h).1
 have:P.info? t=some i:=by
  show (if t<P.types.size then P.types[t]? else _)=_
  rw [if_pos hlt];exact h
 rw [this];simpa using e
set_option maxRecDepth 16384
def i2:TI:=⟨.int .i64,1,8,(.int .i64 0),[0]⟩
theorem K2:TFact Go.Proofs.Tryz.prog 2 i2:=⟨aA3 Go.Proofs.Tryz.type2 rfl,by decide +kernel,by decide +kernel⟩
def i3:TI:=⟨.int .i64,1,8,(.int .i64 0),[0]⟩
theorem K3:TFact Go.Proofs.Tryz.prog 3 i3:=⟨aA3 Go.Proofs.Tryz.type3 rfl,by decide +kernel,by decide +kernel⟩
def i4:TI:=⟨.bool,1,1,(.bool false),[0]⟩
theorem K4:TFact Go.Proofs.Tryz.prog 4 i4:=⟨aA3 Go.Proofs.Tryz.type4 rfl,by decide +kernel,by decide +kernel⟩
def i5:TI:=⟨.int .u8,1,1,(.int .u8 0),[0]⟩
theorem K5:TFact Go.Proofs.Tryz.prog 5 i5:=⟨aA3 Go.Proofs.Tryz.type5 rfl,by decide +kernel,by decide +kernel⟩
def i9:TI:=⟨.str,1,16,(.string .empty),[0]⟩
theorem K9:TFact Go.Proofs.Tryz.prog 9 i9:=⟨aA3 Go.Proofs.Tryz.type9 rfl,by decide +kernel,by decide +kernel⟩
def i20:TI:=⟨.iface,1,16,.nilIface,[0]⟩
def i21:TI:=⟨.int .i32,1,4,(.int .i32 0),[0]⟩
theorem K21:TFact Go.Proofs.Tryz.prog 21 i21:=⟨aA3 Go.Proofs.Tryz.type21 rfl,by decide +kernel,by decide +kernel⟩
def i22:TI:=⟨.slice 34,1,24,(.slice none 0 0),[8]⟩
theorem K22:TFact Go.Proofs.Tryz.prog 22 i22:=⟨aA3 Go.Proofs.Tryz.type22 rfl,by decide +kernel,by decide +kernel⟩
def i24:TI:=⟨.strc [(0,1,false),(1,1,false)],2,32,(.agg #[(.slice none 0 0),(.int .i64 0)]),[8,0]⟩
theorem K24:TFact Go.Proofs.Tryz.prog 24 i24:=⟨aA3 Go.Proofs.Tryz.type24 rfl,by decide +kernel,by decide +kernel⟩
def i27:TI:=⟨.slice 3,1,24,(.slice none 0 0),[1]⟩
theorem K27:TFact Go.Proofs.Tryz.prog 27 i27:=⟨aA3 Go.Proofs.Tryz.type27 rfl,by decide +kernel,by decide +kernel⟩
def i28:TI:=⟨.int .i64,1,8,(.int .i64 0),[0]⟩
theorem K28:TFact Go.Proofs.Tryz.prog 28 i28:=⟨aA3 Go.Proofs.Tryz.type28 rfl,by decide +kernel,by decide +kernel⟩
def i32:TI:=⟨.slice 9,1,24,(.slice none 0 0),[1]⟩
theorem K32:TFact Go.Proofs.Tryz.prog 32 i32:=⟨aA3 Go.Proofs.Tryz.type32 rfl,by decide +kernel,by decide +kernel⟩
def i34:TI:=⟨.strc [(0,1,false),(1,1,false),(2,1,false),(3,1,false),(4,1,false),(5,1,false),(6,1,false),(7,1,false)],8,120,(.agg #[(.string .empty),(.int .i64 0),(.int .i64 0),(.string .empty),(.slice none 0 0),(.string .empty),(.int .i64 0),(.slice none 0 0)]),[0,0,0,0,1,0,0,1]⟩
theorem K34:TFact Go.Proofs.Tryz.prog 34 i34:=⟨aA3 Go.Proofs.Tryz.type34 rfl,by decide +kernel,by decide +kernel⟩
def i37:TI:=⟨.slice 42,1,24,(.slice none 0 0),[3]⟩
theorem K37:TFact Go.Proofs.Tryz.prog 37 i37:=⟨aA3 Go.Proofs.Tryz.type37 rfl,by decide +kernel,by decide +kernel⟩
def i38:TI:=⟨.slice 43,1,24,(.slice none 0 0),[3]⟩
theorem K38:TFact Go.Proofs.Tryz.prog 38 i38:=⟨aA3 Go.Proofs.Tryz.type38 rfl,by decide +kernel,by decide +kernel⟩
def i40:TI:=⟨.strc [(0,1,false),(1,1,false)],2,48,(.agg #[(.slice none 0 0),(.slice none 0 0)]),[1,1]⟩
theorem K40:TFact Go.Proofs.Tryz.prog 40 i40:=⟨aA3 Go.Proofs.Tryz.type40 rfl,by decide +kernel,by decide +kernel⟩
def i42:TI:=⟨.strc [(0,1,false),(1,2,true)],3,64,(.agg #[(.string .empty),(.slice none 0 0),(.slice none 0 0)]),[0,1,1]⟩
theorem K42:TFact Go.Proofs.Tryz.prog 42 i42:=⟨aA3 Go.Proofs.Tryz.type42 rfl,by decide +kernel,by decide +kernel⟩
def i43:TI:=⟨.strc [(0,1,false),(1,2,true)],3,64,(.agg #[(.string .empty),(.slice none 0 0),(.slice none 0 0)]),[0,1,1]⟩
theorem K43:TFact Go.Proofs.Tryz.prog 43 i43:=⟨aA3 Go.Proofs.Tryz.type43 rfl,by decide +kernel,by decide +kernel⟩
def i46:TI:=⟨.slice 40,1,24,(.slice none 0 0),[2]⟩
theorem K46:TFact Go.Proofs.Tryz.prog 46 i46:=⟨aA3 Go.Proofs.Tryz.type46 rfl,by decide +kernel,by decide +kernel⟩
def i79:TI:=⟨.map 3,1,8,(.map none),[0]⟩
theorem K79:TFact Go.Proofs.Tryz.prog 79 i79:=⟨aA3 Go.Proofs.Tryz.type79 rfl,by decide +kernel,by decide +kernel⟩
def i92:TI:=⟨.fn,1,8,.nilFunc,[0]⟩
theorem K92:TFact Go.Proofs.Tryz.prog 92 i92:=⟨aA3 Go.Proofs.Tryz.type92 rfl,by decide +kernel,by decide +kernel⟩
def i94:TI:=⟨.fn,1,8,.nilFunc,[0]⟩
theorem K94:TFact Go.Proofs.Tryz.prog 94 i94:=⟨aA3 Go.Proofs.Tryz.type94 rfl,by decide +kernel,by decide +kernel⟩
def i95:TI:=⟨.fn,1,8,.nilFunc,[0]⟩
theorem K95:TFact Go.Proofs.Tryz.prog 95 i95:=⟨aA3 Go.Proofs.Tryz.type95 rfl,by decide +kernel,by decide +kernel⟩
def i98:TI:=⟨.slice 4,1,24,(.slice none 0 0),[1]⟩
theorem K98:TFact Go.Proofs.Tryz.prog 98 i98:=⟨aA3 Go.Proofs.Tryz.type98 rfl,by decide +kernel,by decide +kernel⟩
def cYi:TI:=⟨.strc [(0,1,false),(1,1,false)],2,32,(.agg #[(.slice none 0 0),(.int .i64 0)]),[1,0]⟩
theorem cYo:TFact Go.Proofs.Tryz.prog 110 cYi:=⟨aA3 Go.Proofs.Tryz.type110 rfl,by decide +kernel,by decide +kernel⟩
def cX3:TI:=⟨.int .u64,1,8,(.int .u64 0),[0]⟩
theorem cYa:TFact Go.Proofs.Tryz.prog 113 cX3:=⟨aA3 Go.Proofs.Tryz.type113 rfl,by decide +kernel,by decide +kernel⟩
def cTu:TI:=⟨.strc [(0,1,false),(1,1,false)],2,32,(.agg #[(.string .empty),(.string .empty)]),[0,0]⟩
theorem cTv:TFact Go.Proofs.Tryz.prog 124 cTu:=⟨aA3 Go.Proofs.Tryz.type124 rfl,by decide +kernel,by decide +kernel⟩
def cCv:TI:=⟨.fn,1,8,.nilFunc,[0]⟩
theorem cC7:TFact Go.Proofs.Tryz.prog 142 cCv:=⟨aA3 Go.Proofs.Tryz.type142 rfl,by decide +kernel,by decide +kernel⟩
def cXr:TI:=⟨.slice 5,1,24,(.slice none 0 0),[1]⟩
theorem cX1:TFact Go.Proofs.Tryz.prog 143 cXr:=⟨aA3 Go.Proofs.Tryz.type143 rfl,by decide +kernel,by decide +kernel⟩
def cVv:TI:=⟨.strc [(0,1,false),(1,1,false)],2,32,(.agg #[(.string .empty),(.string .empty)]),[0,0]⟩
theorem cVx:TFact Go.Proofs.Tryz.prog 146 cVv:=⟨aA3 Go.Proofs.Tryz.type146 rfl,by decide +kernel,by decide +kernel⟩
def cW1:TI:=⟨.iface,1,16,.nilIface,[0]⟩
theorem cW5:TFact Go.Proofs.Tryz.prog 148 cW1:=⟨aA3 Go.Proofs.Tryz.type148 rfl,by decide +kernel,by decide +kernel⟩
def cX4:TI:=⟨.fn,1,8,.nilFunc,[0]⟩
theorem cYb:TFact Go.Proofs.Tryz.prog 154 cX4:=⟨aA3 Go.Proofs.Tryz.type154 rfl,by decide +kernel,by decide +kernel⟩
def cX5:TI:=⟨.fn,1,8,.nilFunc,[0]⟩
theorem cYc:TFact Go.Proofs.Tryz.prog 159 cX5:=⟨aA3 Go.Proofs.Tryz.type159 rfl,by decide +kernel,by decide +kernel⟩
def cRx:TI:=⟨.int .u32,1,4,(.int .u32 0),[0]⟩
theorem cRy:TFact Go.Proofs.Tryz.prog 167 cRx:=⟨aA3 Go.Proofs.Tryz.type167 rfl,by decide +kernel,by decide +kernel⟩
def cVk:TI:=⟨.int .u64,1,8,(.int .u64 0),[0]⟩
theorem cVu:TFact Go.Proofs.Tryz.prog 170 cVk:=⟨aA3 Go.Proofs.Tryz.type170 rfl,by decide +kernel,by decide +kernel⟩
def cYj:TI:=⟨.ptr 189,1,8,(.pointer none),[0]⟩
theorem cYp:TFact Go.Proofs.Tryz.prog 187 cYj:=⟨aA3 Go.Proofs.Tryz.type187 rfl,by decide +kernel,by decide +kernel⟩
def cYk:TI:=⟨.strc [(0,1,false),(1,1,false)],2,32,(.agg #[(.string .empty),.nilIface]),[0,0]⟩
theorem cYq:TFact Go.Proofs.Tryz.prog 189 cYk:=⟨aA3 Go.Proofs.Tryz.type189 rfl,by decide +kernel,by decide +kernel⟩
def cYt:TI:=⟨.ptr 198,1,8,(.pointer none),[0]⟩
theorem cYw:TFact Go.Proofs.Tryz.prog 196 cYt:=⟨aA3 Go.Proofs.Tryz.type196 rfl,by decide +kernel,by decide +kernel⟩
def cYu:TI:=⟨.strc [(0,1,false)],1,8,(.agg #[(.int .i64 0)]),[0]⟩
theorem cYx:TFact Go.Proofs.Tryz.prog 198 cYu:=⟨aA3 Go.Proofs.Tryz.type198 rfl,by decide +kernel,by decide +kernel⟩
def cYv:TI:=⟨.map 94,1,8,(.map none),[0]⟩
theorem cYy:TFact Go.Proofs.Tryz.prog 213 cYv:=⟨aA3 Go.Proofs.Tryz.type213 rfl,by decide +kernel,by decide +kernel⟩
def cYl:TI:=⟨.fn,1,8,.nilFunc,[0]⟩
theorem cYr:TFact Go.Proofs.Tryz.prog 215 cYl:=⟨aA3 Go.Proofs.Tryz.type215 rfl,by decide +kernel,by decide +kernel⟩
def cW8:TI:=⟨.int .i64,1,8,(.int .i64 0),[0]⟩
theorem cXj:TFact Go.Proofs.Tryz.prog 217 cW8:=⟨aA3 Go.Proofs.Tryz.type217 rfl,by decide +kernel,by decide +kernel⟩
def cV3:TI:=⟨.strc [(0,1,false),(1,1,false)],2,24,(.agg #[(.bool false),(.string .empty)]),[0,0]⟩
theorem cWl:TFact Go.Proofs.Tryz.prog 222 cV3:=⟨aA3 Go.Proofs.Tryz.type222 rfl,by decide +kernel,by decide +kernel⟩
def cYm:TI:=⟨.fn,1,8,.nilFunc,[0]⟩
theorem cYs:TFact Go.Proofs.Tryz.prog 226 cYm:=⟨aA3 Go.Proofs.Tryz.type226 rfl,by decide +kernel,by decide +kernel⟩
def cAc:TI:=⟨.slice 167,1,24,(.slice none 0 0),[1]⟩
theorem cBe:TFact Go.Proofs.Tryz.prog 231 cAc:=⟨aA3 Go.Proofs.Tryz.type231 rfl,by decide +kernel,by decide +kernel⟩
def cX6:TI:=⟨.arr 256 4,256,256,(.agg (Array.replicate 256 (.bool false))),(List.replicate 256 0)⟩
theorem cYd:TFact Go.Proofs.Tryz.prog 243 cX6:=⟨aA3 Go.Proofs.Tryz.type243 rfl,by decide +kernel,by decide +kernel⟩
def cX7:TI:=⟨.ptr 243,1,8,(.pointer none),[0]⟩
theorem cYe:TFact Go.Proofs.Tryz.prog 247 cX7:=⟨aA3 Go.Proofs.Tryz.type247 rfl,by decide +kernel,by decide +kernel⟩
theorem HM:Go.Proofs.Tryz.prog.follows .mixedOrders=true:=by decide +kernel
theorem vgo {gl:Gl}{T:Tab}{f:FuncId}{fn:Func}{c:Code}{args:List AV}{R:AV->Prop}(hT:TOK Go.Proofs.Tryz.prog T) (hf:Go.Proofs.Tryz.prog.funcs[f]? =some fn) (h:vwp Go.Proofs.Tryz.prog gl T 0 c (cC9 T fn.results.toList R) ⟨aSy 0 args,[]⟩)
 (hb:fn.body=some c:=by rfl) (hname:(fn.name == "runtime.NumGoroutine")=false:=by decide +kernel) (hd:bMy fn.ntmps c=true:=by decide +kernel) (hn:Nat.ble args.length fn.ntmps=true:=by rfl):aAc Go.Proofs.Tryz.prog gl f args R:=
 aAa hT HM hf hb hname hd hn h
theorem vgH {gl:Gl}{T:Tab}{f:FuncId}{fn:Func}{c:Code}{args:List AV}{obs:List Ob}{R:AV->List Ob->Prop}(hT:TOK Go.Proofs.Tryz.prog T) (hf:Go.Proofs.Tryz.prog.funcs[f]? =some fn) (h:vwp Go.Proofs.Tryz.prog gl T obs.length c (cCk T fn.results.toList obs.length R) ⟨aSy 0 args,obs⟩)
 (hb:fn.body=some c:=by rfl) (hname:(fn.name == "runtime.NumGoroutine")=false:=by decide +kernel) (hd:bMy fn.ntmps c=true:=by decide +kernel) (hn:Nat.ble args.length fn.ntmps=true:=by rfl):aFp Go.Proofs.Tryz.prog gl f args obs R:=
 aGl hT HM hf hb hname hd hn h
end Go.V
namespace Go.V
open Go.N Go.Proofs
variable (gl:Gl)
def bZa:Tab:=[(231,cAc),(167,cRx),(3,i3)]
theorem bEp:TOK Tryz.prog bZa:=⟨cBe,⟨cRy,⟨K3,trivial⟩⟩⟩
def bY6:Tab:=[(231,cAc),(167,cRx),(3,i3),(170,cVk)]
theorem bP8:TOK Tryz.prog bY6:=⟨cBe,⟨cRy,⟨K3,⟨cVu,trivial⟩⟩⟩⟩
def bKw:Tab:=[(231,cAc),(167,cRx),(3,i3)]
theorem bBo:TOK Tryz.prog bKw:=⟨cBe,⟨cRy,⟨K3,trivial⟩⟩⟩
def bUr:Tab:=[(231,cAc),(167,cRx)]
theorem bJx:TOK Tryz.prog bUr:=⟨cBe,⟨cRy,trivial⟩⟩
set_option maxHeartbeats 2000000 in
theorem bTz (l:List Nat) (hs:aBm l) (hl:l.length<9000000000):aAc Tryz.prog gl 238 [.ro 1 (aAb l)] (λx=>x= .ro 1 (aAb (lim (aA1 l)))):=by
 refine vgo bEp Tryz.func238 ?_
 repeat' first|refine sW ⟨?_⟩|(refine sp ?_ ?_<;>refine λh=>⟨?_⟩)|fail
 refine ⟨[0],[],λm st=>∃k:Nat,k<=l.length/\m=k/\lim (aA1 (l.take k))=lim (aA1 l)/\st=⟨[(0,.ro 1 (aAb (l.take k)))],[]⟩,rfl,⟨l.length,l.length,Nat.le_refl _,rfl,by simp,by rw [List.take_length];rfl⟩,?_⟩
 rintro m _ ⟨k,hk,hm,hv,rfl⟩
 have hlt:(aAb (l.take k)).length=k:=by simp;omega
 rcases k with _|k
 · repeat' first|refine sW ⟨?_⟩|(refine sp ?_ ?_<;>refine λh=>⟨?_⟩)|fail
   conv=>whnf
   rw [<- hv]
   simp [aA1,aCi,aAb,one]
 · have hk1:k<l.length:=by omega
   have hget:(aAb (l.take (k+1)))[k]? =some [.int .u32 ((l[k]:Nat):Int)]:=by simp [aAb,hk1]
   have hb:=hs l[k] (List.getElem_mem hk1)
   repeat' first|refine sW ⟨?_⟩|(refine sp ?_ ?_<;>refine λh=>⟨?_⟩)|fail
   · refine ⟨k,_,by omega,hget,?_⟩
     repeat' first|refine sW ⟨?_⟩|(refine sp ?_ ?_<;>refine λh=>⟨?_⟩)|fail
     · have h0:l[k]=0:=by omega
       have he:List.take ((((aAb (l.take (k+1))).length:Int) - 1).toNat - (0:Int).toNat) (List.drop (0:Int).toNat (aAb (l.take (k+1))))=aAb (l.take k):=by
        rw [show ((0:Int).toNat)=0 from rfl,List.drop_zero,show ((((aAb (l.take (k+1))).length:Int) - 1).toNat - 0)=k by omega]
        simp [aAb,<-List.map_take,List.take_take]
       conv=>whnf
       refine ⟨by omega,by omega,by omega,aAb (l.take k),he.symm,?_⟩
       repeat' first|refine sW ⟨?_⟩|(refine sp ?_ ?_<;>refine λh=>⟨?_⟩)|fail
       refine ⟨[],k,rfl,by omega,k,by omega,rfl,?_,rfl⟩
       rw [<- hv,aUe hk1 h0]
     · conv=>whnf
       have h0:l[k]≠0:=by omega
       rw [<- hv,bFr hs hk1 h0]
       rfl
   · exact absurd h (by rw [hlt];omega)
set_option maxHeartbeats 2000000 in
theorem aFl (l:List Nat) (hs:aBm l) (hl:l.length<9000000000):aFp Tryz.prog gl 238 [.own 0 0 (aAb l).length] [.row false 167 1 (aAb l)] (λx h=>x= .own 0 0 (lim (aA1 l)).length/\lim (aA1 l)=l.take (lim (aA1 l)).length/\h=[.row false 167 1 (aAb l)]):=by
 refine vgH bEp Tryz.func238 ?_
 repeat' first|refine sW ⟨?_⟩|(refine sp ?_ ?_<;>refine λh=>⟨?_⟩)|fail
 refine ⟨[0],[0],λm st=>∃k:Nat,k<=l.length/\m=k/\lim (aA1 (l.take k))=lim (aA1 l)/\st=⟨[(0,.own 0 0 k)],[.row false 167 1 (aAb l)]⟩,rfl,⟨l.length,l.length,Nat.le_refl _,rfl,by simp,by rw [limbs_length];rfl⟩,?_⟩
 rintro m _ ⟨k,hk,hm,hv,rfl⟩
 rcases k with _|k
 · repeat' first|refine sW ⟨?_⟩|(refine sp ?_ ?_<;>refine λh=>⟨?_⟩)|fail
   conv=>whnf
   have e:lim (aA1 l)=[]:=by rw [<- hv];simp [aA1,aCi]
   refine ⟨[0],rfl,?_,?_,rfl⟩
   · rw [e];rfl
   · rw [e];rfl
 · have hk1:k<l.length:=by omega
   have hget:(aAb l)[0+k]? =some [.int .u32 ((l[k]:Nat):Int)]:=by simp [aAb,hk1]
   have hb:=hs l[k] (List.getElem_mem hk1)
   repeat' first|refine sW ⟨?_⟩|(refine sp ?_ ?_<;>refine λh=>⟨?_⟩)|fail
   rotate_left
   · exact absurd h (by omega)
   refine ⟨k,by omega,by omega,?_⟩
   repeat' first|refine sW ⟨?_⟩|(refine sp ?_ ?_<;>refine λh=>⟨?_⟩)|fail
   · have h0:l[k]=0:=by omega
     conv=>whnf
     refine ⟨by omega,by omega,by omega,by omega,0,k,rfl,by omega,?_⟩
     repeat' first|refine sW ⟨?_⟩|(refine sp ?_ ?_<;>refine λh=>⟨?_⟩)|fail
     refine ⟨[0],k,rfl,by omega,k,by omega,rfl,?_,rfl⟩
     rw [<- hv,aUe hk1 h0]
   · conv=>whnf
     have h0:l[k]≠0:=by omega
     have e:lim (aA1 l)=l.take (k+1):=by rw [<- hv,bFr hs hk1 h0]
     have e2:(lim (aA1 l)).length=k+1:=by rw [e];simp;omega
     refine ⟨[0],rfl,?_,?_,rfl⟩
     · rw [e2];rfl
     · rw [e2];exact e
set_option maxHeartbeats 2000000 in
theorem aLu (m n:Nat) (hm:(lim m).length<9000000000) (hn:(lim n).length<9000000000):aAc Tryz.prog gl 240 [.ro 1 (aAb (lim m)),.ro 1 (aAb (lim n))] (λx=>x= .int .i64 (aZo m n)):=by
 refine vgo bBo Tryz.func240 ?_
 have hlm:(aAb (lim m)).length=(lim m).length:=limbs_length _
 have hln:(aAb (lim n)).length=(lim n).length:=limbs_length _
 repeat' first|refine sW ⟨?_⟩|(refine sp ?_ ?_<;>refine λh=>⟨?_⟩)|fail
 · conv=>whnf
   refine congrArg (AV.int .i64) (Eq.symm (aH7 (aId (by omega))))
 · conv=>whnf
   refine congrArg (AV.int .i64) (Eq.symm (aP8 (aId (by omega))))
 · have hlen:(lim m).length=(lim n).length:=by omega
   repeat' first|refine sW ⟨?_⟩|(refine sp ?_ ?_<;>refine λh=>⟨?_⟩)|fail
   refine ⟨[0,1,5],[],λk st=>∃j:Nat,j<=(lim m).length/\k=j/\(lim m).drop j=(lim n).drop j/\st=⟨[(0,.ro 1 (aAb (lim m))),(1,.ro 1 (aAb (lim n))),(5,.int .i64 ((j:Int) - 1))],[]⟩,rfl,
    ⟨(lim m).length,(lim m).length,Nat.le_refl _,rfl,by rw [List.drop_length,hlen,List.drop_length],by rw [<- hlm];rfl⟩,?_⟩
   rintro k _ ⟨j,hj,hk,hd,rfl⟩
   rcases j with _|j
   · repeat' first|refine sW ⟨?_⟩|(refine sp ?_ ?_<;>refine λh=>⟨?_⟩)|fail
     conv=>whnf
     simp only [List.drop_zero] at hd
     exact congrArg (AV.int .i64) (Eq.symm (bMq (bW9 hd).symm))
   · have hjm:j<(lim m).length:=by omega
     have hjn:j<(lim n).length:=by omega
     have gm:=aBe hjm
     have gn:=aBe hjn
     repeat' first|refine sW ⟨?_⟩|(refine sp ?_ ?_<;>refine λh=>⟨?_⟩)|fail
     rotate_left
     · exact absurd h (by omega)
     refine ⟨by decide +kernel,[0,0,3,7,0,0,48,112,255],by decide +kernel,?_⟩
     repeat' first|refine sW ⟨?_⟩|(refine sp ?_ ?_<;>refine λh=>⟨?_⟩)|fail
     refine ⟨j,_,by omega,gm,?_⟩
     repeat' first|refine sW ⟨?_⟩|(refine sp ?_ ?_<;>refine λh=>⟨?_⟩)|fail
     refine ⟨j,_,by omega,gn,?_⟩
     repeat' first|refine sW ⟨?_⟩|(refine sp ?_ ?_<;>refine λh=>⟨?_⟩)|fail
     · refine ⟨by decide +kernel,[0,0,3,7,0,0,48,112,255],by decide +kernel,?_⟩
       repeat' first|refine sW ⟨?_⟩|(refine sp ?_ ?_<;>refine λh=>⟨?_⟩)|fail
       refine ⟨j,_,by omega,gm,?_⟩
       repeat' first|refine sW ⟨?_⟩|(refine sp ?_ ?_<;>refine λh=>⟨?_⟩)|fail
       refine ⟨j,_,by omega,gn,?_⟩
       repeat' first|refine sW ⟨?_⟩|(refine sp ?_ ?_<;>refine λh=>⟨?_⟩)|fail
       · conv=>whnf
         have:=aUd (aAz m) (aAz n) hjm hjn hlen (by omega) hd
         rw [aA4,aA4] at this
         exact congrArg (AV.int .i64) (Eq.symm (aH7 this))
       · conv=>whnf
         have:=aUd (aAz n) (aAz m) hjn hjm hlen.symm (by omega) hd.symm
         rw [aA4,aA4] at this
         exact congrArg (AV.int .i64) (Eq.symm (aP8 this))
     · refine ⟨[],j,rfl,by omega,j,by omega,rfl,?_,?_⟩
       · rw [List.drop_eq_getElem_cons hjm,List.drop_eq_getElem_cons hjn,hd]
         congr 1;omega
       · have e:((j+1:Nat):Int) - 1 - 1=(j:Int) - 1:=by omega
         exact Eq.trans rfl (congrArg (λr=>(⟨[(0,.ro 1 (aAb (lim m))),(1,.ro 1 (aAb (lim n))),(5,.int .i64 r)],[]⟩:St)) e)
theorem aPp (l:List Nat) (hl:l.length<1000000):aAc Tryz.prog gl 244 [.ro 1 (aAb l)] (λx=>x= .fr 167 1 (aAb l)\/(l=[]/\x= .nils)):=by
 refine vgo bJx Tryz.func244 ?_
 have hlen:(aAb l).length=l.length:=limbs_length l
 rcases l with _|⟨x,l⟩
 · repeat' first|refine sW ⟨?_⟩|(refine sp ?_ ?_<;>refine λh=>⟨?_⟩)|fail
   conv=>whnf
   refine ⟨?_,?_⟩
   · repeat' first|refine sW ⟨?_⟩|(refine sp ?_ ?_<;>refine λh=>⟨?_⟩)|fail
     conv=>whnf
     exact .inr ⟨rfl,rfl⟩
   · repeat' first|refine sW ⟨?_⟩|(refine sp ?_ ?_<;>refine λh=>⟨?_⟩)|fail
     conv=>whnf
     refine ⟨Nat.le_refl _,Nat.le_of_ble_eq_true rfl,aAb [],rfl,?_⟩
     repeat' first|refine sW ⟨?_⟩|(refine sp ?_ ?_<;>refine λh=>⟨?_⟩)|fail
     conv=>whnf
     exact .inl rfl
 · repeat' first|refine sW ⟨?_⟩|(refine sp ?_ ?_<;>refine λh=>⟨?_⟩)|fail
   conv=>whnf
   refine ⟨Nat.le_refl _,(show (0+(aAb (x::l)).length)*4<=_ by omega),aAb (x::l),rfl,?_⟩
   repeat' first|refine sW ⟨?_⟩|(refine sp ?_ ?_<;>refine λh=>⟨?_⟩)|fail
   conv=>whnf
   exact .inl rfl
theorem cA3 (n:Nat):((n / 4294967296:Nat):Int)=Int.fdiv (n:Int) (2 ^ (min (Int.toNat 32) (IntKind.bits .u64))):=by
 have e:(2:Int) ^ (min (Int.toNat 32) (IntKind.bits .u64))=((4294967296:Nat):Int):=by decide
 rw [e,Int.fdiv_eq_ediv_of_nonneg _ (by omega)];omega
set_option maxHeartbeats 2000000 in
theorem bE2 (l:List Nat) (b m:Nat) (hs:aBm l) (hl:l.length<1000000) (hb:b<4294967296) (hm:m<4294967296):aAc Tryz.prog gl 267 [.ro 1 (aAb l),.int .u64 b,.int .u64 m] (λx=>x= .fr 167 1 (aAb (lim (aA1 l*b+m)))):=by
 refine vgo bP8 Tryz.func267 ?_
 have hlen:(aAb l).length=l.length:=limbs_length l
 repeat' first|refine sW ⟨?_⟩|(refine sp ?_ ?_<;>refine λh=>⟨?_⟩)|fail
 conv=>whnf
 refine ⟨by omega,by omega,by omega,(show (((aAb l).length:Int)+1)*4<=_ by omega),0,rfl,?_⟩
 repeat' first|refine sW ⟨?_⟩|(refine sp ?_ ?_<;>refine λh=>⟨?_⟩)|fail
 refine ⟨[1,2,7,14,15,16],[0],λk st=>∃(i:Nat) (o:List Nat) (c:Nat),i<=l.length/\k=l.length - i/\o.length=i/\aBm o/\c<4294967296/\aA1 o+BB ^ i*c=aA1 (l.take i)*b+m/\
  st=⟨[(1,.int .u64 b),(2,.int .u64 c),(7,.own 0 0 (aAb o).length),(14,.ro 1 (aAb l)),(15,.int .i64 ((aAb l).length:Nat)),(16,.int .i64 (i:Nat))],[.row false 167 1 (aAb o)]⟩,rfl,
  ⟨l.length,0,[],m,by omega,rfl,rfl,by simp [aBm],hm,by simp [aA1],rfl⟩,?_⟩
 rintro k _ ⟨i,o,c,hi,hk,ho,hso,hc,hv,rfl⟩
 rcases Nat.lt_or_ge i l.length with hil|hge
 · have hx:=hs l[i] (List.getElem_mem hil)
   have hx':l[i]<4294967296:=hx
   have hm1:l[i]*b<=4294967295*4294967295:=Nat.mul_le_mul (by omega) (by omega)
   have hm2:(l[i]:Int)*(b:Int)=((l[i]*b:Nat):Int):=by simp
   have hm3:(0:Int)<=(l[i]:Int)*(b:Int):=by omega
   have hm4:(l[i]:Int)*(b:Int)<=18446744065119617025:=by omega
   have hol:(aAb o).length=i:=by rw [limbs_length];exact ho
   repeat' first|refine sW ⟨?_⟩|(refine sp ?_ ?_<;>refine λh=>⟨?_⟩)|fail
   rotate_left
   · exact absurd h (by omega)
   conv=>whnf
   have he:((c:Int)+(l[i]:Int)*(b:Int)) % 4294967296=(((c+l[i]*b) % 4294967296:Nat):Int):=by omega
   refine ⟨Nat.le_refl _,(show ((aAb o).length+1)*4<=_ by omega),_,aDn o _ he,?_⟩
   repeat' first|refine sW ⟨?_⟩|(refine sp ?_ ?_<;>refine λh=>⟨?_⟩)|fail
   refine ⟨by decide,_,cA3 (c+l[i]*b),?_⟩
   repeat' first|refine sW ⟨?_⟩|(refine sp ?_ ?_<;>refine λh=>⟨?_⟩)|fail
   refine ⟨[2],l.length - (i+1),rfl,by omega,i+1,o++[(c+l[i]*b) % 4294967296],(c+l[i]*b) / 4294967296,by omega,rfl,by simp [ho],aA9 hso (by simp [aBm,BB];omega),by omega,?_,rfl⟩
   have e1:BB ^ i*((c+l[i]*b) % 4294967296)+BB ^ i*(BB*((c+l[i]*b) / 4294967296))=BB ^ i*c+BB ^ i*(l[i]*b):=by
    rw [<- Nat.mul_add,<-Nat.mul_add];congr 1;exact Nat.mod_add_div _ _
   rw [aFe,aBf hil,ho,Nat.pow_succ,Nat.mul_assoc (BB ^ i) BB,Nat.add_mul,Nat.mul_assoc (BB ^ i)]
   omega
 · have hol:(aAb o).length=i:=by rw [limbs_length];exact ho
   repeat' first|refine sW ⟨?_⟩|(refine sp ?_ ?_<;>refine λh=>⟨?_⟩)|fail
   · exact absurd h (by omega)
   conv=>whnf
   have he:(c:Int) % 4294967296=(c:Nat):=by omega
   refine ⟨Nat.le_refl _,(show ((aAb o).length+1)*4<=_ by omega),_,aDn o _ he,?_⟩
   repeat' first|refine sW ⟨?_⟩|(refine sp ?_ ?_<;>refine λh=>⟨?_⟩)|fail
   conv=>whnf
   have hso2:aBm (o++[c]):=aA9 hso (by simp [aBm,BB];omega)
   refine .inr ⟨[2],rfl,_,aFl gl (o++[c]) hso2 (by simp;omega),?_⟩
   rintro _ _ ⟨rfl,hpre,rfl⟩
   repeat' first|refine sW ⟨?_⟩|(refine sp ?_ ?_<;>refine λh=>⟨?_⟩)|fail
   conv=>whnf
   refine .inr (.inl ?_)
   have e1:i=l.length:=by omega
   have e2:aA1 (o++[c])=aA1 l*b+m:=by
    rw [aFe,ho,hv,e1,List.take_length]
   show AV.fr _ _ ((aAb (o++[c])).take (lim (aA1 (o++[c]))).length)=_
   rw [aCf,<-hpre,e2]
end Go.V
namespace Go.V
open Go.N Go.Proofs
variable (gl:Gl)
def bVk:Tab:=[(231,cAc),(167,cRx),(3,i3),(170,cVk)]
theorem bKl:TOK Tryz.prog bVk:=⟨cBe,⟨cRy,⟨K3,⟨cVu,trivial⟩⟩⟩⟩
set_option maxHeartbeats 2000000 in
theorem aVw (l:List Nat) (b:Nat) (hs:aBm l) (hl:l.length<1000000) (hb0:0<b) (hb:b<4294967296):aAc Tryz.prog gl 241 [.ro 1 (aAb l),.int .u64 b]
 (λx=>∃q,x= .tup [q,.int .u64 ((aA1 l % b:Nat):Int)]/\(q= .fr 167 1 (aAb (lim (aA1 l / b)))\/(l=[]/\q= .ro 1 (aAb [])))):=by
 refine vgo bKl Tryz.func241 ?_
 have hlen:(aAb l).length=l.length:=limbs_length l
 repeat' first|refine sW ⟨?_⟩|(refine sp ?_ ?_<;>refine λh=>⟨?_⟩)|fail
 conv=>whnf
 refine .inl ⟨_,aPp gl l hl,?_⟩
 rintro _ (rfl|⟨rfl,rfl⟩)
 · repeat' first|refine sW ⟨?_⟩|(refine sp ?_ ?_<;>refine λh=>⟨?_⟩)|fail
   conv=>whnf
   refine ⟨[1,6,7,8],[0],λk st=>∃(j:Nat) (qs:List Nat) (r:Nat),j<=l.length/\k=j/\qs.length=l.length - j/\aBm qs/\r<b/\aA1 (l.drop j)=aA1 qs*b+r/\
    st=⟨[(1,.int .u64 b),(6,.own 0 0 (aAb l).length),(7,.int .u64 (r:Nat)),(8,.int .i64 ((j:Int) - 1))],[.row false 167 1 (aAb (l.take j++qs))]⟩,rfl,
    ⟨l.length,l.length,[],0,Nat.le_refl _,rfl,by simp,by simp [aBm],hb0,by simp [aA1],?_⟩,?_⟩
   · have he:l.take l.length++[]=l:=by simp
     rw [he,<-hlen];rfl
   rintro k _ ⟨j,qs,r,hj,hk,hq,hsq,hr,hv,rfl⟩
   rcases j with _|j
   · simp only [List.drop_zero] at hv
     have hd:aA1 l / b=aA1 qs:=by rw [hv,Nat.add_comm,Nat.add_mul_div_right _ _ hb0,Nat.div_eq_of_lt hr];omega
     have hm:aA1 l % b=r:=by rw [hv,Nat.add_comm,Nat.add_mul_mod_self_right,Nat.mod_eq_of_lt hr]
     have e0:(aAb l).length=(aAb (l.take 0++qs)).length:=by simp;omega
     rw [e0]
     repeat' first|refine sW ⟨?_⟩|(refine sp ?_ ?_<;>refine λh=>⟨?_⟩)|fail
     conv=>whnf
     refine .inr ⟨[0],rfl,_,aFl gl (l.take 0++qs) (by simpa using hsq) (by simp;omega),?_⟩
     rintro _ _ ⟨rfl,hpre,rfl⟩
     repeat' first|refine sW ⟨?_⟩|(refine sp ?_ ?_<;>refine λh=>⟨?_⟩)|fail
     conv=>whnf
     refine .inr (.inl ?_)
     rw [hm,hd]
     refine ⟨_,rfl,.inl ?_⟩
     show AV.fr _ _ ((aAb (l.take 0++qs)).take (lim (aA1 (l.take 0++qs))).length)=_
     rw [aCf,<-hpre]
     rfl
   · have hjl:j<l.length:=by omega
     have hx:=hs l[j] (List.getElem_mem hjl)
     have hx':l[j]<4294967296:=hx
     have hget:(aAb (l.take (j+1)++qs))[0+j]? =some [.int .u32 ((l[j]:Nat):Int)]:=by
      rw [Nat.zero_add,aBe (by simp;omega)]
      congr 4
      rw [List.getElem_append_left (by simp;omega),List.getElem_take]
     have hol:(aAb l).length=l.length:=hlen
     rw [show ((j+1:Nat):Int) - 1=j by omega]
     repeat' first|refine sW ⟨?_⟩|(refine sp ?_ ?_<;>refine λh=>⟨?_⟩)|fail
     refine ⟨by decide,_,bI4 r (by omega),?_⟩
     repeat' first|refine sW ⟨?_⟩|(refine sp ?_ ?_<;>refine λh=>⟨?_⟩)|fail
     refine ⟨by omega,(show ((r*4294967296:Nat):Int)<18446744073709551616 by omega),by omega,(show ((l[j]:Nat):Int)<18446744073709551616 by omega),_,cCy r l[j] (by omega) hx',?_⟩
     repeat' first|refine sW ⟨?_⟩|(refine sp ?_ ?_<;>refine λh=>⟨?_⟩)|fail
     have hn0:r*4294967296+l[j]<b*4294967296:=by
      have:(r+1)*4294967296<=b*4294967296:=Nat.mul_le_mul_right _ hr
      omega
     have hqb:(r*4294967296+l[j]) / b<4294967296:=(Nat.div_lt_iff_lt_mul hb0).2 (by omega)
     have hdm:=Nat.div_add_mod (r*4294967296+l[j]) b
     have hmb:=Nat.mod_lt (r*4294967296+l[j]) hb0
     refine ⟨by omega,_,aTe (r*4294967296+l[j]) b (by omega),?_⟩
     generalize hQ:(r*4294967296+l[j]) / b=Q at hqb hdm
     repeat' first|refine sW ⟨?_⟩|(refine sp ?_ ?_<;>refine λh=>⟨?_⟩)|fail
     conv=>whnf
     refine ⟨by omega,_,aXa (r*4294967296+l[j]) b,?_⟩
     generalize hR:(r*4294967296+l[j]) % b=R at hdm hmb
     repeat' first|refine sW ⟨?_⟩|(refine sp ?_ ?_<;>refine λh=>⟨?_⟩)|fail
     have hlen2:(l.take (j+1)++qs).set j Q=l.take j++Q::qs:=by
      rw [List.take_succ_eq_append_getElem hjl,List.append_assoc,List.set_append_right _ _ (by simp;omega)]
      simp [Nat.min_eq_left (show j<=l.length by omega)]
     have he:(aAb (l.take (j+1)++qs)).set (0+j) [.int .u32 ((Q:Int) % 4294967296)]=aAb (l.take j++Q::qs):=by
      rw [Nat.zero_add,aD0 _ _ Q (by omega),hlen2]
     refine ⟨[0],j,rfl,by omega,j,Q::qs,R,by omega,rfl,by simp;omega,?_,hmb,?_,?_⟩
     · intro y hy
       simp only [List.mem_cons] at hy
       rcases hy with rfl|hy
       · exact hqb
       · exact hsq y hy
     · rw [aRp hjl,hv]
       simp only [aA1]
       rw [Nat.add_mul,Nat.mul_add,<-Nat.mul_assoc]
       have e1:BB*r+l[j]=b*Q+R:=by rw [hdm,Nat.mul_comm];rfl
       rw [Nat.mul_comm Q b];omega
     · exact Eq.trans rfl (congrArg (λz=>(⟨[(1,.int .u64 b),(6,.own 0 0 (aAb l).length),(7,.int .u64 (R:Nat)),(8,.int .i64 ((j:Int) - 1))],[.row false 167 1 z]⟩:St)) he)
 · repeat' first|refine sW ⟨?_⟩|(refine sp ?_ ?_<;>refine λh=>⟨?_⟩)|fail
   conv=>whnf
   refine ⟨[1,6,7,8],[],λk st=>st=⟨[(1,.int .u64 b),(6,.nils),(7,.int .u64 0),(8,.int .i64 (-1))],[]⟩,rfl,⟨0,rfl⟩,?_⟩
   rintro k _ rfl
   repeat' first|refine sW ⟨?_⟩|(refine sp ?_ ?_<;>refine λh=>⟨?_⟩)|fail
   conv=>whnf
   refine .inl ⟨_,bTz gl [] (by simp [aBm]) (by simp),?_⟩
   rintro _ rfl
   repeat' first|refine sW ⟨?_⟩|(refine sp ?_ ?_<;>refine λh=>⟨?_⟩)|fail
   conv=>whnf
   refine ⟨_,?_,.inr ⟨rfl,rfl⟩⟩
   simp [aA1,aCi];rfl
end Go.V
namespace Go.V
open Go.N Go.Proofs
variable (gl:Gl)
def cBv:Tab:=[(231,cAc),(167,cRx),(3,i3),(170,cVk)]
theorem bUp:TOK Tryz.prog cBv:=⟨cBe,⟨cRy,⟨K3,⟨cVu,trivial⟩⟩⟩⟩
def bVj:Tab:=[(170,cVk),(231,cAc),(167,cRx)]
theorem bKk:TOK Tryz.prog bVj:=⟨cVu,⟨cBe,⟨cRy,trivial⟩⟩⟩
set_option maxHeartbeats 2000000 in
theorem bV9 (l l2:List Nat) (hs:aBm l) (hs2:aBm l2) (hl:l.length<1000000) (hll:l2.length<=l.length) (hle:aA1 l2<=aA1 l):aAc Tryz.prog gl 268 [.ro 1 (aAb l),.ro 1 (aAb l2)]
 (λx=>x= .fr 167 1 (aAb (lim (aA1 l - aA1 l2)))\/(l=[]/\x= .ro 1 (aAb []))):=by
 refine vgo bUp Tryz.func268 ?_
 have hlen:(aAb l).length=l.length:=limbs_length l
 have hlen2:(aAb l2).length=l2.length:=limbs_length l2
 repeat' first|refine sW ⟨?_⟩|(refine sp ?_ ?_<;>refine λh=>⟨?_⟩)|fail
 conv=>whnf
 refine .inl ⟨_,aPp gl l hl,?_⟩
 rintro _ (rfl|⟨rfl,rfl⟩)
 · repeat' first|refine sW ⟨?_⟩|(refine sp ?_ ?_<;>refine λh=>⟨?_⟩)|fail
   refine ⟨[1,5,6,12,13],[0],λk st=>∃(i:Nat) (o:List Nat) (c:Nat),i<=l.length/\k=l.length - i/\o.length=i/\aBm o/\c<=1/\aA1 o+aA1 (l2.take i)=aA1 (l.take i)+BB ^ i*c/\
    st=⟨[(1,.ro 1 (aAb l2)),(5,.own 0 0 (aAb l).length),(6,.int .u64 (c:Nat)),(12,.int .i64 ((aAb l).length:Nat)),(13,.int .i64 (i:Nat))],[.row false 167 1 (aAb (o++l.drop i))]⟩,rfl,
    ⟨l.length,0,[],0,by omega,rfl,rfl,by simp [aBm],by omega,by simp [aA1],by rfl⟩,?_⟩
   rintro k _ ⟨i,o,c,hi,hk,ho,hso,hc,hv,rfl⟩
   rcases Nat.lt_or_ge i l.length with hil|hge
   · have hx:=hs l[i] (List.getElem_mem hil)
     have hx':l[i]<4294967296:=hx
     have hget:(aAb (o++l.drop i))[0+i]? =some [.int .u32 ((l[i]:Nat):Int)]:=by
      rw [Nat.zero_add,aBe (by simp;omega)]
      congr 4
      rw [List.getElem_append_right (by omega)]
      simp [ho]
     have hset:∀v,(o++l.drop i).set i v=(o++[v])++l.drop (i+1):=λv=>by
      rw [List.drop_eq_getElem_cons hil,List.set_append_right _ _ (by omega),ho,Nat.sub_self,List.append_assoc];rfl
     rcases Nat.lt_or_ge i l2.length with hi2|hg2
     · have hy:=hs2 l2[i] (List.getElem_mem hi2)
       have hy':l2[i]<4294967296:=hy
       have ht2:=aBf hi2
       repeat' first|refine sW ⟨?_⟩|(refine sp ?_ ?_<;>refine λh=>⟨?_⟩)|fail
       all_goals try omega
       · refine ⟨by decide,_,bI4 1 (by decide),?_⟩
         repeat' first|refine sW ⟨?_⟩|(refine sp ?_ ?_<;>refine λh=>⟨?_⟩)|fail
         refine ⟨[0],l.length - (i+1),rfl,by omega,i+1,o++[l[i]+1*4294967296 - (c+l2[i])],1,by omega,rfl,by simp [ho],aA9 hso (by simp [aBm,BB];omega),by omega,?_,?_⟩
         · rw [aFe,aBf hil,ho,Nat.pow_succ,Nat.mul_assoc (BB ^ i) BB]
           have e1:BB ^ i*(l[i]+1*4294967296 - (c+l2[i]))+BB ^ i*(c+l2[i])=BB ^ i*l[i]+BB ^ i*(BB*1):=by
            rw [<- Nat.mul_add,<-Nat.mul_add];congr 1;simp only [BB];omega
           rw [Nat.mul_add (BB ^ i) c] at e1;rw [ht2];omega
         · have he:(aAb (o++l.drop i)).set (0+i) [AV.int .u32 ((((l[i]:Nat):Int)+((1*4294967296:Nat):Int) - ((c:Int)+((l2[i]:Nat):Int))) % 4294967296)]=aAb ((o++[l[i]+1*4294967296 - (c+l2[i])])++l.drop (i+1)):=by
            rw [Nat.zero_add,aD0 _ _ (l[i]+1*4294967296 - (c+l2[i])) (by omega),hset]
           exact Eq.trans rfl (congrArg (λz=>(⟨[(1,.ro 1 (aAb l2)),(5,.own 0 0 (aAb l).length),(6,.int .u64 ((1:Nat):Int)),(12,.int .i64 ((aAb l).length:Nat)),(13,.int .i64 ((i+1:Nat):Int))],[.row false 167 1 z]⟩:St)) he)
       · refine ⟨by decide,_,bI4 0 (by decide),?_⟩
         repeat' first|refine sW ⟨?_⟩|(refine sp ?_ ?_<;>refine λh=>⟨?_⟩)|fail
         refine ⟨[0],l.length - (i+1),rfl,by omega,i+1,o++[l[i]+0*4294967296 - (c+l2[i])],0,by omega,rfl,by simp [ho],aA9 hso (by simp [aBm,BB];omega),by omega,?_,?_⟩
         · rw [aFe,aBf hil,ho,Nat.pow_succ,Nat.mul_assoc (BB ^ i) BB]
           have e1:BB ^ i*(l[i]+0*4294967296 - (c+l2[i]))+BB ^ i*(c+l2[i])=BB ^ i*l[i]+BB ^ i*(BB*0):=by
            rw [<- Nat.mul_add,<-Nat.mul_add];congr 1;simp only [BB];omega
           rw [Nat.mul_add (BB ^ i) c] at e1;rw [ht2];omega
         · have he:(aAb (o++l.drop i)).set (0+i) [AV.int .u32 ((((l[i]:Nat):Int)+((0*4294967296:Nat):Int) - ((c:Int)+((l2[i]:Nat):Int))) % 4294967296)]=aAb ((o++[l[i]+0*4294967296 - (c+l2[i])])++l.drop (i+1)):=by
            rw [Nat.zero_add,aD0 _ _ (l[i]+0*4294967296 - (c+l2[i])) (by omega),hset]
           exact Eq.trans rfl (congrArg (λz=>(⟨[(1,.ro 1 (aAb l2)),(5,.own 0 0 (aAb l).length),(6,.int .u64 ((0:Nat):Int)),(12,.int .i64 ((aAb l).length:Nat)),(13,.int .i64 ((i+1:Nat):Int))],[.row false 167 1 z]⟩:St)) he)
     · have ht2:l2.take (i+1)=l2.take i:=by rw [List.take_of_length_le (by omega),List.take_of_length_le (by omega)]
       repeat' first|refine sW ⟨?_⟩|(refine sp ?_ ?_<;>refine λh=>⟨?_⟩)|fail
       all_goals try omega
       · refine ⟨by decide,_,bI4 1 (by decide),?_⟩
         repeat' first|refine sW ⟨?_⟩|(refine sp ?_ ?_<;>refine λh=>⟨?_⟩)|fail
         refine ⟨[0],l.length - (i+1),rfl,by omega,i+1,o++[l[i]+1*4294967296 - (c)],1,by omega,rfl,by simp [ho],aA9 hso (by simp [aBm,BB];omega),by omega,?_,?_⟩
         · rw [aFe,aBf hil,ho,Nat.pow_succ,Nat.mul_assoc (BB ^ i) BB]
           have e1:BB ^ i*(l[i]+1*4294967296 - (c))+BB ^ i*(c)=BB ^ i*l[i]+BB ^ i*(BB*1):=by
            rw [<- Nat.mul_add,<-Nat.mul_add];congr 1;simp only [BB];omega
           rw [ht2];omega
         · have he:(aAb (o++l.drop i)).set (0+i) [AV.int .u32 ((((l[i]:Nat):Int)+((1*4294967296:Nat):Int) - (c:Int)) % 4294967296)]=aAb ((o++[l[i]+1*4294967296 - (c)])++l.drop (i+1)):=by
            rw [Nat.zero_add,aD0 _ _ (l[i]+1*4294967296 - (c)) (by omega),hset]
           exact Eq.trans rfl (congrArg (λz=>(⟨[(1,.ro 1 (aAb l2)),(5,.own 0 0 (aAb l).length),(6,.int .u64 ((1:Nat):Int)),(12,.int .i64 ((aAb l).length:Nat)),(13,.int .i64 ((i+1:Nat):Int))],[.row false 167 1 z]⟩:St)) he)
       · refine ⟨by decide,_,bI4 0 (by decide),?_⟩
         repeat' first|refine sW ⟨?_⟩|(refine sp ?_ ?_<;>refine λh=>⟨?_⟩)|fail
         refine ⟨[0],l.length - (i+1),rfl,by omega,i+1,o++[l[i]+0*4294967296 - (c)],0,by omega,rfl,by simp [ho],aA9 hso (by simp [aBm,BB];omega),by omega,?_,?_⟩
         · rw [aFe,aBf hil,ho,Nat.pow_succ,Nat.mul_assoc (BB ^ i) BB]
           have e1:BB ^ i*(l[i]+0*4294967296 - (c))+BB ^ i*(c)=BB ^ i*l[i]+BB ^ i*(BB*0):=by
            rw [<- Nat.mul_add,<-Nat.mul_add];congr 1;simp only [BB];omega
           rw [ht2];omega
         · have he:(aAb (o++l.drop i)).set (0+i) [AV.int .u32 ((((l[i]:Nat):Int)+((0*4294967296:Nat):Int) - (c:Int)) % 4294967296)]=aAb ((o++[l[i]+0*4294967296 - (c)])++l.drop (i+1)):=by
            rw [Nat.zero_add,aD0 _ _ (l[i]+0*4294967296 - (c)) (by omega),hset]
           exact Eq.trans rfl (congrArg (λz=>(⟨[(1,.ro 1 (aAb l2)),(5,.own 0 0 (aAb l).length),(6,.int .u64 ((0:Nat):Int)),(12,.int .i64 ((aAb l).length:Nat)),(13,.int .i64 ((i+1:Nat):Int))],[.row false 167 1 z]⟩:St)) he)
   · repeat' first|refine sW ⟨?_⟩|(refine sp ?_ ?_<;>refine λh=>⟨?_⟩)|fail
     all_goals try omega
     conv=>whnf
     have e1:i=l.length:=by omega
     have hlt:=aNh hso
     rw [e1,List.take_length,List.take_of_length_le (by omega)] at hv
     have hb:aA1 l<BB ^ l.length:=aNh hs
     rw [ho,e1] at hlt
     have hc0:c=0:=by
      rcases Nat.lt_or_ge c 1 with h|h
      · omega
      · obtain rfl:c=1:=by omega
        omega
     have e2:aA1 (o++l.drop i)=aA1 l - aA1 l2:=by
      rw [List.drop_of_length_le (by omega),List.append_nil]
      rw [hc0] at hv;omega
     have e3:(aAb l).length=(aAb (o++l.drop i)).length:=by simp;omega
     have hcall:=aFl gl (o++l.drop i) (aA9 hso λx hx=>hs x (List.mem_of_mem_drop hx)) (by simp;omega)
     rw [<- e3] at hcall
     refine .inr ⟨[0],rfl,_,hcall,?_⟩
     rintro _ _ ⟨rfl,hpre,rfl⟩
     repeat' first|refine sW ⟨?_⟩|(refine sp ?_ ?_<;>refine λh=>⟨?_⟩)|fail
     conv=>whnf
     refine .inr (.inl (.inl ?_))
     show AV.fr _ _ ((aAb (o++l.drop i)).take (lim (aA1 (o++l.drop i))).length)=_
     rw [aCf,<-hpre,e2]
 · repeat' first|refine sW ⟨?_⟩|(refine sp ?_ ?_<;>refine λh=>⟨?_⟩)|fail
   refine ⟨[1,5,6,12,13],[],λk st=>st=⟨[(1,.ro 1 (aAb l2)),(5,.nils),(6,.int .u64 0),(12,.int .i64 0),(13,.int .i64 0)],[]⟩,rfl,⟨0,rfl⟩,?_⟩
   rintro k _ rfl
   repeat' first|refine sW ⟨?_⟩|(refine sp ?_ ?_<;>refine λh=>⟨?_⟩)|fail
   conv=>whnf
   refine .inl ⟨_,bTz gl [] (by simp [aBm]) (by simp),?_⟩
   rintro _ rfl
   repeat' first|refine sW ⟨?_⟩|(refine sp ?_ ?_<;>refine λh=>⟨?_⟩)|fail
   conv=>whnf
   refine .inr ⟨rfl,?_⟩
   simp [aA1,aCi];rfl
theorem bOs (n:Nat) (h:n<32):((2 ^ n:Nat):Int)=IntKind.wrap .u64 (1*2 ^ (min ((n:Nat):Int).toNat (IntKind.bits .u64))):=by
 have e:min ((n:Nat):Int).toNat (IntKind.bits .u64)=n:=by simp [IntKind.bits];omega
 have h1:2 ^ n<=2 ^ 32:=Nat.pow_le_pow_right (by omega) (by omega)
 rw [e]
 have e2:((2 ^ n:Nat):Int)=1*2 ^ n:=by simp
 rw [<- e2]
 generalize 2 ^ n=q at h1
 exact bYb (by omega) (by omega)
theorem bMh (l:List Nat) (n:Nat) (hs:aBm l) (hl:l.length<1000000) (hn:n<32):aAc Tryz.prog gl 242 [.ro 1 (aAb l),.int .u64 (n:Nat)] (λx=>x= .fr 167 1 (aAb (lim (aA1 l*2 ^ n)))):=by
 refine vgo bKk Tryz.func242 ?_
 have h1:2 ^ n<=2 ^ 31:=Nat.pow_le_pow_right (by omega) (by omega)
 repeat' first|refine sW ⟨?_⟩|(refine sp ?_ ?_<;>refine λh=>⟨?_⟩)|fail
 refine ⟨by omega,_,bOs n hn,?_⟩
 repeat' first|refine sW ⟨?_⟩|(refine sp ?_ ?_<;>refine λh=>⟨?_⟩)|fail
 conv=>whnf
 have hc:=bE2 gl l (2 ^ n) 0 hs hl (by omega) (by omega)
 rw [Nat.add_zero] at hc
 refine .inl ⟨_,hc,?_⟩
 rintro _ rfl
 repeat' first|refine sW ⟨?_⟩|(refine sp ?_ ?_<;>refine λh=>⟨?_⟩)|fail
 conv=>whnf
 rfl
end Go.V
namespace Go.V
open Go.N Go.Proofs
variable (gl:Gl)
def bY5:Tab:=[(9,i9),(3,i3),(170,cVk),(5,i5),(231,cAc),(167,cRx)]
theorem bP7:TOK Tryz.prog bY5:=⟨K9,⟨K3,⟨cVu,⟨K5,⟨cBe,⟨cRy,trivial⟩⟩⟩⟩⟩⟩
theorem bAw (a b:Nat) (h:0<a):(((a - 1) % b:Nat):Int)=Int.tmod ((a:Int) - 1) ((b:Nat):Int):=by
 rw [show (a:Int) - 1=((a - 1:Nat):Int) by omega,<-Int.ofNat_tmod]
set_option maxHeartbeats 2000000 in
theorem bTx (s:ByteArray) (hd:s.toList.all aCe=true) (hs:s.size<1000000):aAc Tryz.prog gl 239 [.str s] (λx=>x= .fr 167 1 (aAb (lim (aC8 s.toList)))\/(s.size=0/\x= .nils)):=by
 refine vgo bP7 Tryz.func239 ?_
 repeat' first|refine sW ⟨?_⟩|(refine sp ?_ ?_<;>refine λh=>⟨?_⟩)|fail
 refine ⟨[0,3],[],λk st=>∃(t:ByteArray) (N:Nat),k=t.size/\t.size<=s.size/\t.toList.all aCe=true/\aC8 s.toList=N*10 ^ t.size+aC8 t.toList/\N<10 ^ (s.size - t.size)/\
  ((N=0/\t.size=s.size/\st=⟨[(0,.str t),(3,.nils)],[]⟩)\/(t.size % 9=0/\st=⟨[(0,.str t),(3,.own 0 0 (aAb (lim N)).length)],[.row false 167 1 (aAb (lim N))]⟩)),rfl,⟨s.size,s,0,rfl,Nat.le_refl _,hd,by simp,by simp,.inl ⟨rfl,rfl,rfl⟩⟩,?_⟩
 rintro k _ ⟨t,N,hk,hts,htd,hv,hN,⟨hN0,hts2,rfl⟩|⟨h9,rfl⟩⟩
 · rcases Nat.eq_zero_or_pos t.size with h0|hpos
   · repeat' first|refine sW ⟨?_⟩|(refine sp ?_ ?_<;>refine λh=>⟨?_⟩)|fail
     all_goals try omega
     conv=>whnf
     exact .inr ⟨by omega,rfl⟩
   · have hl:=Go.N.len_toList t
     repeat' first|refine sW ⟨?_⟩|(refine sp ?_ ?_<;>refine λh=>⟨?_⟩)|fail
     rotate_left
     · omega
     refine ⟨by decide,_,bAw t.size 9 hpos,?_⟩
     generalize hr0:(t.size - 1) % 9=r0
     have hr9:r0<9:=by omega
     repeat' first|refine sW ⟨?_⟩|(refine sp ?_ ?_<;>refine λh=>⟨?_⟩)|fail
     conv=>whnf
     refine ⟨[0,3,4,5,15,16],[],λk st=>∃(i v:Nat),i<=r0+1/\k=r0+1 - i/\v=aC8 (t.toList.take i)/\
      st=⟨[(0,.str t),(3,.nils),(4,.int .i64 ((r0+1:Nat):Int)),(5,.int .u64 (v:Nat)),(15,.int .i64 ((r0+1:Nat):Int)),(16,.int .i64 (i:Nat))],[]⟩,rfl,⟨r0+1,0,0,by omega,rfl,by simp [aC8],rfl⟩,?_⟩
     rintro k2 _ ⟨i,v,hi,hk2,hvi,rfl⟩
     have hvb:v<10 ^ i:=by
      rw [hvi]
      have:=aQc (l:=t.toList.take i) (by rw [List.all_eq_true] at htd ⊢;exact λx hx=>htd x (List.mem_of_mem_take hx))
      rwa [List.length_take,Nat.min_eq_left (by omega)] at this
     have hvb2:v<1000000000:=Nat.lt_of_lt_of_le hvb (Nat.le_trans (Nat.pow_le_pow_right (by omega) (show i<=9 by omega)) (by decide))
     rcases Nat.lt_or_ge i (r0+1) with hir|hge
     · obtain ⟨hd1,hd2⟩:=aPm htd (show i<t.toList.length by omega)
       have hvi2:=aQd t.toList i (by omega)
       repeat' first|refine sW ⟨?_⟩|(refine sp ?_ ?_<;>refine λh=>⟨?_⟩)|fail
       all_goals try omega
       refine ⟨[],r0+1 - (i+1),rfl,by omega,i+1,10*v+((t.toList[i]'(by omega)).toNat - 48),by omega,rfl,?_,?_⟩
       · rw [hvi2,hvi]
       · have he:(10:Int)*(v:Nat)+(((t.toList[i]'(by omega)).toNat:Int) - 48)=((10*v+((t.toList[i]'(by omega)).toNat - 48):Nat):Int):=by omega
         exact Eq.trans rfl (congrArg (λz=>(⟨[(0,.str t),(3,.nils),(4,.int .i64 ((r0+1:Nat):Int)),(5,.int .u64 z),(15,.int .i64 ((r0+1:Nat):Int)),(16,.int .i64 ((i+1:Nat):Int))],[]⟩:St)) he)
     · have e1:i=r0+1:=by omega
       repeat' first|refine sW ⟨?_⟩|(refine sp ?_ ?_<;>refine λh=>⟨?_⟩)|fail
       all_goals try omega
       have hlt:t.size=(t.size - (r0+1))+(r0+1):=by omega
       have hsz:(t.extract ((r0:Int)+1).toNat ((t.size:Nat):Int).toNat).size=t.size - (r0+1):=by
        rw [show ((r0:Int)+1).toNat=r0+1 by omega,Int.toNat_natCast];simp
       have htl:(t.extract ((r0:Int)+1).toNat ((t.size:Nat):Int).toNat).toList=t.toList.drop (r0+1):=by
        rw [aB3,show ((r0:Int)+1).toNat=r0+1 by omega,Int.toNat_natCast,List.take_of_length_le (by simp;omega)]
       have hsp:aC8 t.toList=v*10 ^ (t.size - (r0+1))+aC8 (t.toList.drop (r0+1)):=by
        conv=>lhs;rw [<- List.take_append_drop (r0+1) t.toList,aV3]
        rw [hvi,e1,List.length_drop,hl]
       have hall:(t.toList.drop (r0+1)).all aCe=true:=by rw [List.all_eq_true] at htd ⊢;exact λx hx=>htd x (List.mem_of_mem_drop hx)
       conv=>whnf
       refine .inl ⟨_,bE2 gl [] 1000000000 v (by simp [aBm]) (by simp) (by omega) (by omega),?_⟩
       rintro _ rfl
       repeat' first|refine sW ⟨?_⟩|(refine sp ?_ ?_<;>refine λh=>⟨?_⟩)|fail
       refine ⟨[0],_,rfl,?_,t.extract ((r0:Int)+1).toNat ((t.size:Nat):Int).toNat,aA1 []*1000000000+v,rfl,by omega,by rw [htl];exact hall,?_,?_,.inr ⟨by omega,rfl⟩⟩
       · rw [hsz];omega
       · rw [htl,hsz,hv,hsp,hN0];simp only [aA1];rw [Nat.zero_mul,Nat.zero_add,Nat.zero_mul,Nat.zero_add]
       · rw [hsz,show s.size - (t.size - (r0+1))=r0+1 by omega];simp only [aA1];rw [<- e1];omega
 · rcases Nat.eq_zero_or_pos t.size with h0|hpos
   · repeat' first|refine sW ⟨?_⟩|(refine sp ?_ ?_<;>refine λh=>⟨?_⟩)|fail
     all_goals try omega
     conv=>whnf
     have ht0:t.toList=[]:=List.eq_nil_of_length_eq_zero (by rw [Go.N.len_toList];exact h0)
     have e:aC8 s.toList=N:=by rw [hv,ht0,h0];simp [aC8]
     rw [e]
     exact .inl rfl
   · have hl:=Go.N.len_toList t
     repeat' first|refine sW ⟨?_⟩|(refine sp ?_ ?_<;>refine λh=>⟨?_⟩)|fail
     rotate_left
     · omega
     refine ⟨by decide,_,bAw t.size 9 hpos,?_⟩
     generalize hr0:(t.size - 1) % 9=r0
     have hr9:r0<9:=by omega
     repeat' first|refine sW ⟨?_⟩|(refine sp ?_ ?_<;>refine λh=>⟨?_⟩)|fail
     conv=>whnf
     refine ⟨[0,3,4,5,15,16],[0],λk st=>∃(i v:Nat),i<=r0+1/\k=r0+1 - i/\v=aC8 (t.toList.take i)/\
      st=⟨[(0,.str t),(3,.own 0 0 (aAb (lim N)).length),(4,.int .i64 ((r0+1:Nat):Int)),(5,.int .u64 (v:Nat)),(15,.int .i64 ((r0+1:Nat):Int)),(16,.int .i64 (i:Nat))],[.row false 167 1 (aAb (lim N))]⟩,rfl,⟨r0+1,0,0,by omega,rfl,by simp [aC8],rfl⟩,?_⟩
     rintro k2 _ ⟨i,v,hi,hk2,hvi,rfl⟩
     have hvb:v<10 ^ i:=by
      rw [hvi]
      have:=aQc (l:=t.toList.take i) (by rw [List.all_eq_true] at htd ⊢;exact λx hx=>htd x (List.mem_of_mem_take hx))
      rwa [List.length_take,Nat.min_eq_left (by omega)] at this
     have hvb2:v<1000000000:=Nat.lt_of_lt_of_le hvb (Nat.le_trans (Nat.pow_le_pow_right (by omega) (show i<=9 by omega)) (by decide))
     rcases Nat.lt_or_ge i (r0+1) with hir|hge
     · obtain ⟨hd1,hd2⟩:=aPm htd (show i<t.toList.length by omega)
       have hvi2:=aQd t.toList i (by omega)
       repeat' first|refine sW ⟨?_⟩|(refine sp ?_ ?_<;>refine λh=>⟨?_⟩)|fail
       all_goals try omega
       refine ⟨[0],r0+1 - (i+1),rfl,by omega,i+1,10*v+((t.toList[i]'(by omega)).toNat - 48),by omega,rfl,?_,?_⟩
       · rw [hvi2,hvi]
       · have he:(10:Int)*(v:Nat)+(((t.toList[i]'(by omega)).toNat:Int) - 48)=((10*v+((t.toList[i]'(by omega)).toNat - 48):Nat):Int):=by omega
         exact Eq.trans rfl (congrArg (λz=>(⟨[(0,.str t),(3,.own 0 0 (aAb (lim N)).length),(4,.int .i64 ((r0+1:Nat):Int)),(5,.int .u64 z),(15,.int .i64 ((r0+1:Nat):Int)),(16,.int .i64 ((i+1:Nat):Int))],[.row false 167 1 (aAb (lim N))]⟩:St)) he)
     · have e1:i=r0+1:=by omega
       repeat' first|refine sW ⟨?_⟩|(refine sp ?_ ?_<;>refine λh=>⟨?_⟩)|fail
       all_goals try omega
       have hlt:t.size=(t.size - (r0+1))+(r0+1):=by omega
       have hsz:(t.extract ((r0:Int)+1).toNat ((t.size:Nat):Int).toNat).size=t.size - (r0+1):=by
        rw [show ((r0:Int)+1).toNat=r0+1 by omega,Int.toNat_natCast];simp
       have htl:(t.extract ((r0:Int)+1).toNat ((t.size:Nat):Int).toNat).toList=t.toList.drop (r0+1):=by
        rw [aB3,show ((r0:Int)+1).toNat=r0+1 by omega,Int.toNat_natCast,List.take_of_length_le (by simp;omega)]
       have hsp:aC8 t.toList=v*10 ^ (t.size - (r0+1))+aC8 (t.toList.drop (r0+1)):=by
        conv=>lhs;rw [<- List.take_append_drop (r0+1) t.toList,aV3]
        rw [hvi,e1,List.length_drop,hl]
       have hall:(t.toList.drop (r0+1)).all aCe=true:=by rw [List.all_eq_true] at htd ⊢;exact λx hx=>htd x (List.mem_of_mem_drop hx)
       conv=>whnf
       have hll:(lim N).length<=s.size:=(aCy N _).2 (Nat.lt_of_lt_of_le hN (Nat.le_trans (Nat.pow_le_pow_right (by omega) (show s.size - t.size<=s.size by omega)) (Nat.pow_le_pow_left (by simp [BB]) _)))
       have hcall:=bE2 gl (lim N) 1000000000 v (aAz N) (by omega) (by omega) (by omega)
       rw [<- List.take_length (l:=aAb (lim N)),<-List.drop_zero (l:=aAb (lim N))] at hcall
       refine .inl ⟨_,hcall,?_⟩
       rintro _ rfl
       conv=>whnf
       refine ⟨false,aEc _,?_⟩
       repeat' first|refine sW ⟨?_⟩|(refine sp ?_ ?_<;>refine λh=>⟨?_⟩)|fail
       refine ⟨[1],_,rfl,?_,t.extract ((r0:Int)+1).toNat ((t.size:Nat):Int).toNat,aA1 (lim N)*1000000000+v,rfl,by omega,by rw [htl];exact hall,?_,?_,.inr ⟨by omega,rfl⟩⟩
       · rw [hsz];omega
       · have h8:r0+1=9:=by omega
         rw [htl,hsz,hv,hsp,aA4]
         have:N*10 ^ t.size=N*1000000000*10 ^ (t.size - (r0+1)):=by
          conv=>lhs;rw [hlt,Nat.pow_add,h8]
          rw [Nat.mul_comm (10 ^ _) (10 ^ 9),<-Nat.mul_assoc];rw [h8]
         rw [this,Nat.add_mul];omega
       · have h8:r0+1=9:=by omega
         rw [hsz,show s.size - (t.size - (r0+1))=(s.size - t.size)+9 by omega,aA4,Nat.pow_add]
         have:(N+1)*1000000000<=10 ^ (s.size - t.size)*10 ^ 9:=Nat.mul_le_mul_right _ hN
         omega
end Go.V
namespace Go.V
open Go.N Go.Proofs
variable (gl:Gl)
def bKq:Tab:=[(143,cXr),(5,i5),(3,i3)]
theorem bBi:TOK Tryz.prog bKq:=⟨cX1,⟨K5,⟨K3,trivial⟩⟩⟩
set_option maxHeartbeats 2000000 in
theorem bLu (l:List Nat) (hl:l.length<1000000000):aFp Tryz.prog gl 245 [.own 0 0 (aDy l).length] [.row false 5 1 (aDy l)] (λx h=>x= .tup []/\h=[.row false 5 1 (aDy l.reverse)]):=by
 refine vgH bBi Tryz.func245 ?_
 have hlen:(aDy l).length=l.length:=byts_length l
 repeat' first|refine sW ⟨?_⟩|(refine sp ?_ ?_<;>refine λh=>⟨?_⟩)|fail
 refine ⟨[0,2,3],[0],λk st=>∃(i:Nat) (c:List Nat),2*i<=l.length+1/\k=l.length+1 - 2*i/\c.length=l.length/\(∀ q,(hq:q<l.length)->(hq2:q<c.length)->c[q]=if q<i\/l.length<=q+i then l[l.length - 1 - q] else l[q])/\
  st=⟨[(0,.own 0 0 (aDy l).length),(2,.int .i64 (i:Nat)),(3,.int .i64 ((l.length:Int) - 1 - (i:Nat)))],[.row false 5 1 (aDy c)]⟩,rfl,⟨l.length+1,0,l,by omega,by omega,rfl,?_,?_⟩,?_⟩
 · intro q h1 h2
   rw [if_neg (by omega)]
 · have e:(((aDy l).length:Nat):Int) - 1=(l.length:Int) - 1 - ((0:Nat):Int):=by omega
   exact Eq.trans rfl (congrArg (λz=>(⟨[(0,.own 0 0 (aDy l).length),(2,.int .i64 0),(3,.int .i64 z)],[.row false 5 1 (aDy l)]⟩:St)) e)
 rintro k _ ⟨i,c,hi,hk,hc,hq,rfl⟩
 rcases Nat.lt_or_ge (2*i+1) l.length with hlt|hge
 · have hci:i<c.length:=by omega
   have hcj:l.length - 1 - i<c.length:=by omega
   have ej:(l.length:Int) - 1 - (i:Nat)=((l.length - 1 - i:Nat):Int):=by omega
   rw [ej]
   generalize hJ:l.length - 1 - i=J at hcj
   have hlb:(aDy l).length=c.length:=by omega
   have g1:(aDy c)[0+i]? =some [.int .u8 ((c[i]:Nat):Int)]:=by rw [Nat.zero_add];exact aVm hci
   have g2:(aDy c)[0+J]? =some [.int .u8 ((c[J]:Nat):Int)]:=by rw [Nat.zero_add];exact aVm hcj
   have g3:((aDy c).set (0+i) [.int .u8 ((c[J]:Nat):Int)])[0+J]? =some [.int .u8 ((c[J]:Nat):Int)]:=by
    rw [List.getElem?_set_ne (by omega),g2]
   repeat' first|refine sW ⟨?_⟩|(refine sp ?_ ?_<;>refine λh=>⟨?_⟩)|fail
   all_goals try omega
   refine ⟨by decide +kernel,[0,0,0,0,0,0,48,112,0,0,768,1792,4083,8179,16383,32767],by decide +kernel,?_⟩
   repeat' first|refine sW ⟨?_⟩|(refine sp ?_ ?_<;>refine λh=>⟨?_⟩)|fail
   all_goals try omega
   have he:((aDy c).set (0+i) [.int .u8 ((c[J]:Nat):Int)]).set (0+J) [.int .u8 ((c[i]:Nat):Int)]=aDy ((c.set i c[J]).set J c[i]):=by
    rw [Nat.zero_add,Nat.zero_add,bEt _ _ c[J] rfl,bEt _ _ c[i] rfl]
   refine ⟨[0],l.length+1 - 2*(i+1),rfl,by omega,i+1,(c.set i c[J]).set J c[i],by omega,by omega,by simp [hc],?_,?_⟩
   · intro q h1 h2
     have hqi:=hq i (by omega) hci
     have hqJ:=hq J (by omega) hcj
     rw [if_neg (by omega)] at hqi hqJ
     rw [List.getElem_set]
     split
     · subst_vars
       rw [if_pos (by omega),hqi]
       (try (congr 1<;>omega))
     · rw [List.getElem_set]
       split
       · subst_vars
         rw [if_pos (by omega),hqJ]
         (try congr 1)
       · rw [hq q h1 (by omega)]
         by_cases hh:q<i\/l.length<=q+i
         · rw [if_pos hh,if_pos (by omega)]
         · rw [if_neg hh,if_neg (by omega)]
   · have e3:(J:Int) - 1=(l.length:Int) - 1 - ((i+1:Nat):Int):=by omega
     exact Eq.trans rfl (Eq.trans (congrArg (λz=>(⟨[(0,.own 0 0 (aDy l).length),(2,.int .i64 ((i+1:Nat):Int)),(3,.int .i64 ((J:Int) - 1))],[.row false 5 1 z]⟩:St)) he)
      (congrArg (λz=>(⟨[(0,.own 0 0 (aDy l).length),(2,.int .i64 ((i+1:Nat):Int)),(3,.int .i64 z)],[.row false 5 1 (aDy ((c.set i c[J]).set J c[i]))]⟩:St)) e3))
 · repeat' first|refine sW ⟨?_⟩|(refine sp ?_ ?_<;>refine λh=>⟨?_⟩)|fail
   all_goals try omega
   conv=>whnf
   have e:c=l.reverse:=by
    refine List.ext_getElem (by simp [hc]) λq h1 h2=>?_
    rw [hq q (by omega) h1,List.getElem_reverse]
    by_cases hh:q<i\/l.length<=q+i
    · rw [if_pos hh]
    · rw [if_neg hh];congr 1<;>omega
   refine ⟨[0],rfl,rfl,?_⟩
   rw [<- e]
   rfl
end Go.V
namespace Go.V
open Go.N Go.Proofs
variable (gl:Gl)
def Top (V:Nat) (ds:List Nat):Prop:=V=0->∃l x,ds=l++[x]/\x≠0
def bY9:Tab:=[(231,cAc),(167,cRx),(3,i3),(170,cVk),(5,i5),(143,cXr),(9,i9)]
theorem bQa:TOK Tryz.prog bY9:=⟨cBe,⟨cRy,⟨K3,⟨cVu,⟨K5,⟨cX1,⟨K9,trivial⟩⟩⟩⟩⟩⟩⟩
set_option maxHeartbeats 2000000 in
theorem aTx (n:Nat) (hn:(dec n).length<1000000):aAc Tryz.prog gl 206 [.ro 1 (aAb (lim n))] (λx=>x= .str (aAx n)):=by
 refine vgo bQa Tryz.func206 ?_
 have hlen:(aAb (lim n)).length=(lim n).length:=limbs_length _
 have hn0:=aBb n
 repeat' first|refine sW ⟨?_⟩|(refine sp ?_ ?_<;>refine λh=>⟨?_⟩)|fail
 · conv=>whnf
   have e:n=0:=by omega
   subst e
   rw [<- aB8];rfl
 · conv=>whnf
   have hn1:n≠0:=λe=>h (by omega)
   refine ⟨[0,3],[],λk st=>∃(A:Nat) (ds:List Nat),k=A/\(∀ x∈ds,x<10)/\n=aFr ds+10 ^ ds.length*A/\Top A ds/\
    ((ds=[]/\A=n/\st=⟨[(0,.ro 1 (aAb (lim A))),(3,.nils)],[]⟩)\/
     st=⟨[(0,.own 0 0 (aAb (lim A)).length),(3,.own 1 0 (aDy (ds.map (48+ ·))).length)],[.row false 167 1 (aAb (lim A)),.row false 5 1 (aDy (ds.map (48+ ·)))]⟩),rfl,
    ⟨n,n,[],rfl,by simp,by simp [aFr],λh=>absurd h hn1,.inl ⟨rfl,rfl,rfl⟩⟩,?_⟩
   rintro k _ ⟨A,ds,hk,hds,hnA,hlast,⟨hd0,hAn,rfl⟩|rfl⟩
   · have hlA:(aAb (lim A)).length=(lim A).length:=limbs_length _
     have hA0:=aBb A
     have hA1:A≠0:=by omega
     have hll:=aBd n
     repeat' first|refine sW ⟨?_⟩|(refine sp ?_ ?_<;>refine λh=>⟨?_⟩)|fail
     all_goals try omega
     conv=>whnf
     refine .inl ⟨_,aVw gl (lim A) 1000000000 (aAz A) (by rw [hAn];omega) (by omega) (by omega),?_⟩
     rintro _ ⟨q,rfl,rfl|⟨hnil,_⟩⟩
     rotate_left
     · exact absurd (hA0.1 (by rw [hnil];rfl)) hA1
     rw [aA4]
     obtain ⟨Q,hQ⟩:∃Q,Q=A / 1000000000:=⟨_,rfl⟩
     rw [<- hQ]
     have hAQ:A=1000000000*Q+A % 1000000000:=by omega
     repeat' first|refine sW ⟨?_⟩|(refine sp ?_ ?_<;>refine λh=>⟨?_⟩)|fail
     conv=>whnf
     refine ⟨[3,4,5,6],[0],λkk st=>∃(k L:Nat) (ds:List Nat),k<=9/\kk=9 - k/\L<10 ^ (9 - k)/\(∀ x∈ds,x<10)/\n=aFr ds+10 ^ ds.length*(10 ^ (9 - k)*Q+L)/\Top (10 ^ (9 - k)*Q+L) ds/\
      ((ds=[]/\k=0/\st=⟨[(3,.nils),(4,.own 0 0 (aAb (lim Q)).length),(5,.int .u64 (L:Nat)),(6,.int .i64 (k:Nat))],[.row false 167 1 (aAb (lim Q))]⟩)\/
       st=⟨[(3,.own 1 0 (aDy (ds.map (48+ ·))).length),(4,.own 0 0 (aAb (lim Q)).length),(5,.int .u64 (L:Nat)),(6,.int .i64 (k:Nat))],[.row false 167 1 (aAb (lim Q)),.row false 5 1 (aDy (ds.map (48+ ·)))]⟩),rfl,⟨9,0,A % 1000000000,ds,by omega,rfl,by simp;omega,hds,(show n=aFr ds+10 ^ ds.length*(1000000000*Q+A % 1000000000) by rw [<- hAQ];exact hnA),λh=>absurd h (show ¬1000000000*Q+A % 1000000000=0 by omega),.inl ⟨hd0,rfl,rfl⟩⟩,?_⟩
     rintro kk _ ⟨k,L,ds',hk,hkk,hL,hds',hn',hz,⟨hd0,hk0,rfl⟩|rfl⟩
     · subst hd0
       have hlq:(aAb (lim Q)).length=(lim Q).length:=limbs_length _
       have hq0:=aBb Q
       have hLb:L<1000000000:=Nat.lt_of_lt_of_le hL (Nat.le_trans (Nat.pow_le_pow_right (by omega) (show 9 - k<=9 by omega)) (by decide))
       rcases Nat.lt_or_ge k 9 with hk9|hk9
       · have hp:10 ^ (9 - k)=10*10 ^ (9 - (k+1)):=by rw [show 9 - k=(9 - (k+1))+1 by omega,Nat.pow_succ,Nat.mul_comm]
         have hpp:0<10 ^ (9 - (k+1)):=Nat.pow_pos (by omega)
         have hsn:aDy ((([]:List Nat)++[L % 10]).map (48+ ·))=(aDy ((([]:List Nat)).map (48+ ·))).take (aDy ((([]:List Nat)).map (48+ ·))).length++[[.int .u8 (48+((L % 10:Nat):Int))]]:=by
          rw [List.map_append,List.map_cons,List.map_nil];exact aJ3 _ _ rfl
         have e:10 ^ (9 - k)*Q+L=L % 10+10*(10 ^ (9 - (k+1))*Q+L / 10):=by rw [hp,Nat.mul_assoc];omega
         have hL10:L / 10<10 ^ (9 - (k+1)):=by omega
         have hn2:n=aFr (([]:List Nat)++[L % 10])+10 ^ (([]:List Nat)++[L % 10]).length*(10 ^ (9 - (k+1))*Q+L / 10):=by
          rw [hn',e,Nat.mul_add,aDo,List.length_append]
          simp only [List.length_cons,List.length_nil,Nat.zero_add,Nat.pow_succ]
          rw [<- Nat.mul_assoc];omega
         have hds2:∀x∈([]:List Nat)++[L % 10],x<10:=λx hx=>by
          rcases List.mem_append.1 hx with hx|hx
          · exact hds' x hx
          · simp at hx;omega
         have hlen10:(([]:List Nat)).length<=(dec n).length\/(Q=0/\L=0):=by
          rcases Nat.eq_zero_or_pos (10 ^ (9 - k)*Q+L) with h0|h0
          · right
            have h1:10 ^ (9 - k)*Q=0:=by omega
            rcases Nat.mul_eq_zero.1 h1 with h2|h2
            · have:=Nat.pow_pos (n:=9 - k) (show 0<10 by omega);omega
            · exact ⟨h2,by omega⟩
          · left
            have h1:10 ^ (([]:List Nat)).length*1<=10 ^ (([]:List Nat)).length*(10 ^ (9 - k)*Q+L):=Nat.mul_le_mul_left _ h0
            have h2:¬n<10 ^ (([]:List Nat)).length:=by omega
            rcases Nat.eq_zero_or_pos (([]:List Nat)).length with h3|h3
            · omega
            · have:=mt (aAn n (([]:List Nat)).length h3).1 h2
              omega
         have nz:0<Q\/0<L->Top (10 ^ (9 - (k+1))*Q+L / 10) (([]:List Nat)++[L % 10]):=λhc h0=>by
          refine ⟨([]:List Nat),L % 10,rfl,?_⟩
          rcases hc with hc|hc
          · have:=Nat.mul_pos hpp hc;omega
          · omega
         rcases Nat.eq_zero_or_pos Q with hQ0|hQ0
         · rcases Nat.eq_zero_or_pos L with hL0|hL0
           · repeat' first|refine sW ⟨?_⟩|(refine sp ?_ ?_<;>refine λh=>⟨?_⟩)|fail
             all_goals try omega
             have hnQ:n=aFr (([]:List Nat))+10 ^ (([]:List Nat)).length*Q:=by rw [hn',hQ0,hL0];simp
             have hzQ:Top Q (([]:List Nat)):=λ_=>hz (by rw [hQ0,hL0];simp)
             exfalso;simp [aFr] at hnQ;omega
           · repeat' first|refine sW ⟨?_⟩|(refine sp ?_ ?_<;>refine λh=>⟨?_⟩)|fail
             all_goals try omega
             refine ⟨by decide,_,aXa L 10,?_⟩
             repeat' first|refine sW ⟨?_⟩|(refine sp ?_ ?_<;>refine λh=>⟨?_⟩)|fail
             conv=>whnf
             refine ⟨(show 1*1<=140737488355328 by decide),List.cons_ne_nil _ _,?_⟩
             repeat' first|refine sW ⟨?_⟩|(refine sp ?_ ?_<;>refine λh=>⟨?_⟩)|fail
             refine ⟨by decide,_,aTe L 10 (by omega),?_⟩
             repeat' first|refine sW ⟨?_⟩|(refine sp ?_ ?_<;>refine λh=>⟨?_⟩)|fail
             exact ⟨[0,2],9 - (k+1),rfl,by omega,k+1,L / 10,([]:List Nat)++[L % 10],by omega,rfl,hL10,hds2,hn2,nz (.inr hL0),.inr rfl⟩
         · repeat' first|refine sW ⟨?_⟩|(refine sp ?_ ?_<;>refine λh=>⟨?_⟩)|fail
           all_goals try omega
           refine ⟨by decide,_,aXa L 10,?_⟩
           repeat' first|refine sW ⟨?_⟩|(refine sp ?_ ?_<;>refine λh=>⟨?_⟩)|fail
           conv=>whnf
           refine ⟨(show 1*1<=140737488355328 by decide),List.cons_ne_nil _ _,?_⟩
           repeat' first|refine sW ⟨?_⟩|(refine sp ?_ ?_<;>refine λh=>⟨?_⟩)|fail
           refine ⟨by decide,_,aTe L 10 (by omega),?_⟩
           repeat' first|refine sW ⟨?_⟩|(refine sp ?_ ?_<;>refine λh=>⟨?_⟩)|fail
           exact ⟨[0,2],9 - (k+1),rfl,by omega,k+1,L / 10,([]:List Nat)++[L % 10],by omega,rfl,hL10,hds2,hn2,nz (.inl hQ0),.inr rfl⟩
       · have hk9':k=9:=by omega
         have hL0:L=0:=by rw [hk9'] at hL;simp at hL;omega
         repeat' first|refine sW ⟨?_⟩|(refine sp ?_ ?_<;>refine λh=>⟨?_⟩)|fail
         all_goals try omega
         all_goals
          have hnQ:n=aFr (([]:List Nat))+10 ^ (([]:List Nat)).length*Q:=by rw [hn',hk9',hL0];simp
          have hzQ:Top Q (([]:List Nat)):=λhh=>hz (by rw [hh,hL0];simp)
          exfalso;simp [aFr] at hnQ;omega
     · have hlq:(aAb (lim Q)).length=(lim Q).length:=limbs_length _
       have hq0:=aBb Q
       have hLb:L<1000000000:=Nat.lt_of_lt_of_le hL (Nat.le_trans (Nat.pow_le_pow_right (by omega) (show 9 - k<=9 by omega)) (by decide))
       rcases Nat.lt_or_ge k 9 with hk9|hk9
       · have hp:10 ^ (9 - k)=10*10 ^ (9 - (k+1)):=by rw [show 9 - k=(9 - (k+1))+1 by omega,Nat.pow_succ,Nat.mul_comm]
         have hpp:0<10 ^ (9 - (k+1)):=Nat.pow_pos (by omega)
         have hsn:aDy ((ds'++[L % 10]).map (48+ ·))=(aDy ((ds').map (48+ ·))).take (aDy ((ds').map (48+ ·))).length++[[.int .u8 (48+((L % 10:Nat):Int))]]:=by
          rw [List.map_append,List.map_cons,List.map_nil];exact aJ3 _ _ rfl
         have e:10 ^ (9 - k)*Q+L=L % 10+10*(10 ^ (9 - (k+1))*Q+L / 10):=by rw [hp,Nat.mul_assoc];omega
         have hL10:L / 10<10 ^ (9 - (k+1)):=by omega
         have hn2:n=aFr (ds'++[L % 10])+10 ^ (ds'++[L % 10]).length*(10 ^ (9 - (k+1))*Q+L / 10):=by
          rw [hn',e,Nat.mul_add,aDo,List.length_append]
          simp only [List.length_cons,List.length_nil,Nat.zero_add,Nat.pow_succ]
          rw [<- Nat.mul_assoc];omega
         have hds2:∀x∈ds'++[L % 10],x<10:=λx hx=>by
          rcases List.mem_append.1 hx with hx|hx
          · exact hds' x hx
          · simp at hx;omega
         have hlen10:(ds').length<=(dec n).length\/(Q=0/\L=0):=by
          rcases Nat.eq_zero_or_pos (10 ^ (9 - k)*Q+L) with h0|h0
          · right
            have h1:10 ^ (9 - k)*Q=0:=by omega
            rcases Nat.mul_eq_zero.1 h1 with h2|h2
            · have:=Nat.pow_pos (n:=9 - k) (show 0<10 by omega);omega
            · exact ⟨h2,by omega⟩
          · left
            have h1:10 ^ (ds').length*1<=10 ^ (ds').length*(10 ^ (9 - k)*Q+L):=Nat.mul_le_mul_left _ h0
            have h2:¬n<10 ^ (ds').length:=by omega
            rcases Nat.eq_zero_or_pos (ds').length with h3|h3
            · omega
            · have:=mt (aAn n (ds').length h3).1 h2
              omega
         have nz:0<Q\/0<L->Top (10 ^ (9 - (k+1))*Q+L / 10) (ds'++[L % 10]):=λhc h0=>by
          refine ⟨ds',L % 10,rfl,?_⟩
          rcases hc with hc|hc
          · have:=Nat.mul_pos hpp hc;omega
          · omega
         rcases Nat.eq_zero_or_pos Q with hQ0|hQ0
         · rcases Nat.eq_zero_or_pos L with hL0|hL0
           · repeat' first|refine sW ⟨?_⟩|(refine sp ?_ ?_<;>refine λh=>⟨?_⟩)|fail
             all_goals try omega
             have hnQ:n=aFr (ds')+10 ^ (ds').length*Q:=by rw [hn',hQ0,hL0];simp
             have hzQ:Top Q (ds'):=λ_=>hz (by rw [hQ0,hL0];simp)
             exact ⟨[0,1],Q,rfl,by omega,Q,ds',rfl,hds',hnQ,hzQ,.inr rfl⟩
           · repeat' first|refine sW ⟨?_⟩|(refine sp ?_ ?_<;>refine λh=>⟨?_⟩)|fail
             all_goals try omega
             refine ⟨by decide,_,aXa L 10,?_⟩
             repeat' first|refine sW ⟨?_⟩|(refine sp ?_ ?_<;>refine λh=>⟨?_⟩)|fail
             conv=>whnf
             refine ⟨Nat.le_refl _,(show ((aDy (ds'.map (48+ ·))).length+1)*1<=_ by simp;omega),_,hsn,?_⟩
             repeat' first|refine sW ⟨?_⟩|(refine sp ?_ ?_<;>refine λh=>⟨?_⟩)|fail
             refine ⟨by decide,_,aTe L 10 (by omega),?_⟩
             repeat' first|refine sW ⟨?_⟩|(refine sp ?_ ?_<;>refine λh=>⟨?_⟩)|fail
             exact ⟨[0,3],9 - (k+1),rfl,by omega,k+1,L / 10,ds'++[L % 10],by omega,rfl,hL10,hds2,hn2,nz (.inr hL0),.inr rfl⟩
         · repeat' first|refine sW ⟨?_⟩|(refine sp ?_ ?_<;>refine λh=>⟨?_⟩)|fail
           all_goals try omega
           refine ⟨by decide,_,aXa L 10,?_⟩
           repeat' first|refine sW ⟨?_⟩|(refine sp ?_ ?_<;>refine λh=>⟨?_⟩)|fail
           conv=>whnf
           refine ⟨Nat.le_refl _,(show ((aDy (ds'.map (48+ ·))).length+1)*1<=_ by simp;omega),_,hsn,?_⟩
           repeat' first|refine sW ⟨?_⟩|(refine sp ?_ ?_<;>refine λh=>⟨?_⟩)|fail
           refine ⟨by decide,_,aTe L 10 (by omega),?_⟩
           repeat' first|refine sW ⟨?_⟩|(refine sp ?_ ?_<;>refine λh=>⟨?_⟩)|fail
           exact ⟨[0,3],9 - (k+1),rfl,by omega,k+1,L / 10,ds'++[L % 10],by omega,rfl,hL10,hds2,hn2,nz (.inl hQ0),.inr rfl⟩
       · have hk9':k=9:=by omega
         have hL0:L=0:=by rw [hk9'] at hL;simp at hL;omega
         repeat' first|refine sW ⟨?_⟩|(refine sp ?_ ?_<;>refine λh=>⟨?_⟩)|fail
         all_goals try omega
         all_goals
          have hnQ:n=aFr (ds')+10 ^ (ds').length*Q:=by rw [hn',hk9',hL0];simp
          have hzQ:Top Q (ds'):=λhh=>hz (by rw [hh,hL0];simp)
          exact ⟨[0,1],Q,rfl,by omega,Q,ds',rfl,hds',hnQ,hzQ,.inr rfl⟩
   · have hlA:(aAb (lim A)).length=(lim A).length:=limbs_length _
     have hA0:=aBb A
     rcases Nat.eq_zero_or_pos A with hz0|hpos
     · have hdl:ds.length<=(dec n).length:=by
        obtain ⟨l,x,hlx,hx0⟩:=hlast hz0
        have h1:=bNo (l:=l) hx0
        rw [<- hlx] at h1
        have h2:¬n<10 ^ l.length:=by omega
        rw [hlx,List.length_append]
        rcases Nat.eq_zero_or_pos l.length with h3|h3
        · have:=List.length_pos_iff.2 (aEt n);simp;omega
        · have:=mt (aAn n l.length h3).1 h2
          simp;omega
       repeat' first|refine sW ⟨?_⟩|(refine sp ?_ ?_<;>refine λh=>⟨?_⟩)|fail
       all_goals try omega
       conv=>whnf
       refine .inr ⟨[1],rfl,_,bLu gl (ds.map (48+ ·)) (by simpa using Nat.lt_of_le_of_lt hdl (by omega)),?_⟩
       rintro _ _ ⟨rfl,rfl⟩
       repeat' first|refine sW ⟨?_⟩|(refine sp ?_ ?_<;>refine λh=>⟨?_⟩)|fail
       conv=>whnf
       have hes:List.take (aDy (ds.map (48+ ·))).length (List.drop 0 (aDy (ds.map (48+ ·)).reverse))=(((ds.reverse).map (48+ ·)).map λ(x:Nat)=>(x:Int)).map (λb=>[AV.int .u8 b]):=by
        rw [List.drop_zero,List.take_of_length_le (by simp),<-List.map_reverse,bEu]
       refine ⟨_,hes,?_⟩
       repeat' first|refine sW ⟨?_⟩|(refine sp ?_ ?_<;>refine λh=>⟨?_⟩)|fail
       conv=>whnf
       refine congrArg AV.str (aBl ?_)
       rw [aR4 _ (by simpa using hds),aAu,aV2 hds (hlast hz0)]
       congr 1
       rw [hnA,hz0];simp
     · have hA1:A≠0:=by omega
       have hAn:A<=n:=by
        rw [hnA]
        have:1*A<=10 ^ ds.length*A:=Nat.mul_le_mul_right _ (Nat.pow_pos (by omega))
        omega
       have hll:(lim A).length<=(dec n).length:=Nat.le_trans (aBd A) (aBw hAn)
       repeat' first|refine sW ⟨?_⟩|(refine sp ?_ ?_<;>refine λh=>⟨?_⟩)|fail
       all_goals try omega
       conv=>whnf
       have hcall:=aVw gl (lim A) 1000000000 (aAz A) (by omega) (by omega) (by omega)
       rw [<- List.take_length (l:=aAb (lim A)),<-List.drop_zero (l:=aAb (lim A))] at hcall
       refine .inl ⟨_,hcall,?_⟩
       rintro _ ⟨q,rfl,rfl|⟨hnil,_⟩⟩
       rotate_left
       · exact absurd (hA0.1 (by rw [hnil];rfl)) hA1
       rw [aA4]
       obtain ⟨Q,hQ⟩:∃Q,Q=A / 1000000000:=⟨_,rfl⟩
       rw [<- hQ]
       have hAQ:A=1000000000*Q+A % 1000000000:=by omega
       conv=>whnf
       refine ⟨false,aZt (aEc _) bFc,?_⟩
       repeat' first|refine sW ⟨?_⟩|(refine sp ?_ ?_<;>refine λh=>⟨?_⟩)|fail
       conv=>whnf
       refine ⟨[3,4,5,6],[2,1],λkk st=>∃(k L:Nat) (ds:List Nat),k<=9/\kk=9 - k/\L<10 ^ (9 - k)/\(∀ x∈ds,x<10)/\n=aFr ds+10 ^ ds.length*(10 ^ (9 - k)*Q+L)/\Top (10 ^ (9 - k)*Q+L) ds/\
        ((ds=[]/\k=0/\st=⟨[(3,.nils),(4,.own 0 0 (aAb (lim Q)).length),(5,.int .u64 (L:Nat)),(6,.int .i64 (k:Nat))],[.row false 167 1 (aAb (lim Q))]⟩)\/
         st=⟨[(3,.own 1 0 (aDy (ds.map (48+ ·))).length),(4,.own 0 0 (aAb (lim Q)).length),(5,.int .u64 (L:Nat)),(6,.int .i64 (k:Nat))],[.row false 167 1 (aAb (lim Q)),.row false 5 1 (aDy (ds.map (48+ ·)))]⟩),rfl,⟨9,0,A % 1000000000,ds,by omega,rfl,by simp;omega,hds,(show n=aFr ds+10 ^ ds.length*(1000000000*Q+A % 1000000000) by rw [<- hAQ];exact hnA),λh=>absurd h (show ¬1000000000*Q+A % 1000000000=0 by omega),.inr rfl⟩,?_⟩
       rintro kk _ ⟨k,L,ds',hk,hkk,hL,hds',hn',hz,⟨hd0,hk0,rfl⟩|rfl⟩
       · subst hd0
         have hlq:(aAb (lim Q)).length=(lim Q).length:=limbs_length _
         have hq0:=aBb Q
         have hLb:L<1000000000:=Nat.lt_of_lt_of_le hL (Nat.le_trans (Nat.pow_le_pow_right (by omega) (show 9 - k<=9 by omega)) (by decide))
         rcases Nat.lt_or_ge k 9 with hk9|hk9
         · have hp:10 ^ (9 - k)=10*10 ^ (9 - (k+1)):=by rw [show 9 - k=(9 - (k+1))+1 by omega,Nat.pow_succ,Nat.mul_comm]
           have hpp:0<10 ^ (9 - (k+1)):=Nat.pow_pos (by omega)
           have hsn:aDy ((([]:List Nat)++[L % 10]).map (48+ ·))=(aDy ((([]:List Nat)).map (48+ ·))).take (aDy ((([]:List Nat)).map (48+ ·))).length++[[.int .u8 (48+((L % 10:Nat):Int))]]:=by
            rw [List.map_append,List.map_cons,List.map_nil];exact aJ3 _ _ rfl
           have e:10 ^ (9 - k)*Q+L=L % 10+10*(10 ^ (9 - (k+1))*Q+L / 10):=by rw [hp,Nat.mul_assoc];omega
           have hL10:L / 10<10 ^ (9 - (k+1)):=by omega
           have hn2:n=aFr (([]:List Nat)++[L % 10])+10 ^ (([]:List Nat)++[L % 10]).length*(10 ^ (9 - (k+1))*Q+L / 10):=by
            rw [hn',e,Nat.mul_add,aDo,List.length_append]
            simp only [List.length_cons,List.length_nil,Nat.zero_add,Nat.pow_succ]
            rw [<- Nat.mul_assoc];omega
           have hds2:∀x∈([]:List Nat)++[L % 10],x<10:=λx hx=>by
            rcases List.mem_append.1 hx with hx|hx
            · exact hds' x hx
            · simp at hx;omega
           have hlen10:(([]:List Nat)).length<=(dec n).length\/(Q=0/\L=0):=by
            rcases Nat.eq_zero_or_pos (10 ^ (9 - k)*Q+L) with h0|h0
            · right
              have h1:10 ^ (9 - k)*Q=0:=by omega
              rcases Nat.mul_eq_zero.1 h1 with h2|h2
              · have:=Nat.pow_pos (n:=9 - k) (show 0<10 by omega);omega
              · exact ⟨h2,by omega⟩
            · left
              have h1:10 ^ (([]:List Nat)).length*1<=10 ^ (([]:List Nat)).length*(10 ^ (9 - k)*Q+L):=Nat.mul_le_mul_left _ h0
              have h2:¬n<10 ^ (([]:List Nat)).length:=by omega
              rcases Nat.eq_zero_or_pos (([]:List Nat)).length with h3|h3
              · omega
              · have:=mt (aAn n (([]:List Nat)).length h3).1 h2
                omega
           have nz:0<Q\/0<L->Top (10 ^ (9 - (k+1))*Q+L / 10) (([]:List Nat)++[L % 10]):=λhc h0=>by
            refine ⟨([]:List Nat),L % 10,rfl,?_⟩
            rcases hc with hc|hc
            · have:=Nat.mul_pos hpp hc;omega
            · omega
           rcases Nat.eq_zero_or_pos Q with hQ0|hQ0
           · rcases Nat.eq_zero_or_pos L with hL0|hL0
             · repeat' first|refine sW ⟨?_⟩|(refine sp ?_ ?_<;>refine λh=>⟨?_⟩)|fail
               all_goals try omega
               have hnQ:n=aFr (([]:List Nat))+10 ^ (([]:List Nat)).length*Q:=by rw [hn',hQ0,hL0];simp
               have hzQ:Top Q (([]:List Nat)):=λ_=>hz (by rw [hQ0,hL0];simp)
               exfalso;simp [aFr] at hnQ;omega
             · repeat' first|refine sW ⟨?_⟩|(refine sp ?_ ?_<;>refine λh=>⟨?_⟩)|fail
               all_goals try omega
               refine ⟨by decide,_,aXa L 10,?_⟩
               repeat' first|refine sW ⟨?_⟩|(refine sp ?_ ?_<;>refine λh=>⟨?_⟩)|fail
               conv=>whnf
               refine ⟨(show 1*1<=140737488355328 by decide),List.cons_ne_nil _ _,?_⟩
               repeat' first|refine sW ⟨?_⟩|(refine sp ?_ ?_<;>refine λh=>⟨?_⟩)|fail
               refine ⟨by decide,_,aTe L 10 (by omega),?_⟩
               repeat' first|refine sW ⟨?_⟩|(refine sp ?_ ?_<;>refine λh=>⟨?_⟩)|fail
               exact ⟨[0,2],9 - (k+1),rfl,by omega,k+1,L / 10,([]:List Nat)++[L % 10],by omega,rfl,hL10,hds2,hn2,nz (.inr hL0),.inr rfl⟩
           · repeat' first|refine sW ⟨?_⟩|(refine sp ?_ ?_<;>refine λh=>⟨?_⟩)|fail
             all_goals try omega
             refine ⟨by decide,_,aXa L 10,?_⟩
             repeat' first|refine sW ⟨?_⟩|(refine sp ?_ ?_<;>refine λh=>⟨?_⟩)|fail
             conv=>whnf
             refine ⟨(show 1*1<=140737488355328 by decide),List.cons_ne_nil _ _,?_⟩
             repeat' first|refine sW ⟨?_⟩|(refine sp ?_ ?_<;>refine λh=>⟨?_⟩)|fail
             refine ⟨by decide,_,aTe L 10 (by omega),?_⟩
             repeat' first|refine sW ⟨?_⟩|(refine sp ?_ ?_<;>refine λh=>⟨?_⟩)|fail
             exact ⟨[0,2],9 - (k+1),rfl,by omega,k+1,L / 10,([]:List Nat)++[L % 10],by omega,rfl,hL10,hds2,hn2,nz (.inl hQ0),.inr rfl⟩
         · have hk9':k=9:=by omega
           have hL0:L=0:=by rw [hk9'] at hL;simp at hL;omega
           repeat' first|refine sW ⟨?_⟩|(refine sp ?_ ?_<;>refine λh=>⟨?_⟩)|fail
           all_goals try omega
           all_goals
            have hnQ:n=aFr (([]:List Nat))+10 ^ (([]:List Nat)).length*Q:=by rw [hn',hk9',hL0];simp
            have hzQ:Top Q (([]:List Nat)):=λhh=>hz (by rw [hh,hL0];simp)
            exfalso;simp [aFr] at hnQ;omega
       · have hlq:(aAb (lim Q)).length=(lim Q).length:=limbs_length _
         have hq0:=aBb Q
         have hLb:L<1000000000:=Nat.lt_of_lt_of_le hL (Nat.le_trans (Nat.pow_le_pow_right (by omega) (show 9 - k<=9 by omega)) (by decide))
         rcases Nat.lt_or_ge k 9 with hk9|hk9
         · have hp:10 ^ (9 - k)=10*10 ^ (9 - (k+1)):=by rw [show 9 - k=(9 - (k+1))+1 by omega,Nat.pow_succ,Nat.mul_comm]
           have hpp:0<10 ^ (9 - (k+1)):=Nat.pow_pos (by omega)
           have hsn:aDy ((ds'++[L % 10]).map (48+ ·))=(aDy ((ds').map (48+ ·))).take (aDy ((ds').map (48+ ·))).length++[[.int .u8 (48+((L % 10:Nat):Int))]]:=by
            rw [List.map_append,List.map_cons,List.map_nil];exact aJ3 _ _ rfl
           have e:10 ^ (9 - k)*Q+L=L % 10+10*(10 ^ (9 - (k+1))*Q+L / 10):=by rw [hp,Nat.mul_assoc];omega
           have hL10:L / 10<10 ^ (9 - (k+1)):=by omega
           have hn2:n=aFr (ds'++[L % 10])+10 ^ (ds'++[L % 10]).length*(10 ^ (9 - (k+1))*Q+L / 10):=by
            rw [hn',e,Nat.mul_add,aDo,List.length_append]
            simp only [List.length_cons,List.length_nil,Nat.zero_add,Nat.pow_succ]
            rw [<- Nat.mul_assoc];omega
           have hds2:∀x∈ds'++[L % 10],x<10:=λx hx=>by
            rcases List.mem_append.1 hx with hx|hx
            · exact hds' x hx
            · simp at hx;omega
           have hlen10:(ds').length<=(dec n).length\/(Q=0/\L=0):=by
            rcases Nat.eq_zero_or_pos (10 ^ (9 - k)*Q+L) with h0|h0
            · right
              have h1:10 ^ (9 - k)*Q=0:=by omega
              rcases Nat.mul_eq_zero.1 h1 with h2|h2
              · have:=Nat.pow_pos (n:=9 - k) (show 0<10 by omega);omega
              · exact ⟨h2,by omega⟩
            · left
              have h1:10 ^ (ds').length*1<=10 ^ (ds').length*(10 ^ (9 - k)*Q+L):=Nat.mul_le_mul_left _ h0
              have h2:¬n<10 ^ (ds').length:=by omega
              rcases Nat.eq_zero_or_pos (ds').length with h3|h3
              · omega
              · have:=mt (aAn n (ds').length h3).1 h2
                omega
           have nz:0<Q\/0<L->Top (10 ^ (9 - (k+1))*Q+L / 10) (ds'++[L % 10]):=λhc h0=>by
            refine ⟨ds',L % 10,rfl,?_⟩
            rcases hc with hc|hc
            · have:=Nat.mul_pos hpp hc;omega
            · omega
           rcases Nat.eq_zero_or_pos Q with hQ0|hQ0
           · rcases Nat.eq_zero_or_pos L with hL0|hL0
             · repeat' first|refine sW ⟨?_⟩|(refine sp ?_ ?_<;>refine λh=>⟨?_⟩)|fail
               all_goals try omega
               have hnQ:n=aFr (ds')+10 ^ (ds').length*Q:=by rw [hn',hQ0,hL0];simp
               have hzQ:Top Q (ds'):=λ_=>hz (by rw [hQ0,hL0];simp)
               exact ⟨[0,1],Q,rfl,by omega,Q,ds',rfl,hds',hnQ,hzQ,.inr rfl⟩
             · repeat' first|refine sW ⟨?_⟩|(refine sp ?_ ?_<;>refine λh=>⟨?_⟩)|fail
               all_goals try omega
               refine ⟨by decide,_,aXa L 10,?_⟩
               repeat' first|refine sW ⟨?_⟩|(refine sp ?_ ?_<;>refine λh=>⟨?_⟩)|fail
               conv=>whnf
               refine ⟨Nat.le_refl _,(show ((aDy (ds'.map (48+ ·))).length+1)*1<=_ by simp;omega),_,hsn,?_⟩
               repeat' first|refine sW ⟨?_⟩|(refine sp ?_ ?_<;>refine λh=>⟨?_⟩)|fail
               refine ⟨by decide,_,aTe L 10 (by omega),?_⟩
               repeat' first|refine sW ⟨?_⟩|(refine sp ?_ ?_<;>refine λh=>⟨?_⟩)|fail
               exact ⟨[0,3],9 - (k+1),rfl,by omega,k+1,L / 10,ds'++[L % 10],by omega,rfl,hL10,hds2,hn2,nz (.inr hL0),.inr rfl⟩
           · repeat' first|refine sW ⟨?_⟩|(refine sp ?_ ?_<;>refine λh=>⟨?_⟩)|fail
             all_goals try omega
             refine ⟨by decide,_,aXa L 10,?_⟩
             repeat' first|refine sW ⟨?_⟩|(refine sp ?_ ?_<;>refine λh=>⟨?_⟩)|fail
             conv=>whnf
             refine ⟨Nat.le_refl _,(show ((aDy (ds'.map (48+ ·))).length+1)*1<=_ by simp;omega),_,hsn,?_⟩
             repeat' first|refine sW ⟨?_⟩|(refine sp ?_ ?_<;>refine λh=>⟨?_⟩)|fail
             refine ⟨by decide,_,aTe L 10 (by omega),?_⟩
             repeat' first|refine sW ⟨?_⟩|(refine sp ?_ ?_<;>refine λh=>⟨?_⟩)|fail
             exact ⟨[0,3],9 - (k+1),rfl,by omega,k+1,L / 10,ds'++[L % 10],by omega,rfl,hL10,hds2,hn2,nz (.inl hQ0),.inr rfl⟩
         · have hk9':k=9:=by omega
           have hL0:L=0:=by rw [hk9'] at hL;simp at hL;omega
           repeat' first|refine sW ⟨?_⟩|(refine sp ?_ ?_<;>refine λh=>⟨?_⟩)|fail
           all_goals try omega
           all_goals
            have hnQ:n=aFr (ds')+10 ^ (ds').length*Q:=by rw [hn',hk9',hL0];simp
            have hzQ:Top Q (ds'):=λhh=>hz (by rw [hh,hL0];simp)
            exact ⟨[0,1],Q,rfl,by omega,Q,ds',rfl,hds',hnQ,hzQ,.inr rfl⟩
end Go.V
namespace Go.V
open Go.N Go.Proofs
variable (gl:Gl)
def bVa:Tab:=[(231,cAc),(167,cRx),(3,i3),(170,cVk)]
theorem bKc:TOK Tryz.prog bVa:=⟨cBe,⟨cRy,⟨K3,⟨cVu,trivial⟩⟩⟩⟩
theorem bIr (l:List Nat) (k:Nat):(aAb l).drop k=aAb (l.drop k):=by simp [aAb]
theorem bSg {P D head top n:Nat}(hn:0<n) (hP:P<(head+1)*BB ^ (n - 1)) (hD:top*BB ^ (n - 1)<=D) (ht:0<top):P / D<=head / top:=by
 rw [Nat.le_div_iff_mul_le ht]
 have hp:0<BB ^ (n - 1):=Nat.pow_pos (by simp [BB])
 have h1:P / D*(top*BB ^ (n - 1))<=P / D*D:=Nat.mul_le_mul_left _ hD
 have h2:P / D*D<=P:=Nat.div_mul_le_self P D
 have h3:(P / D*top)*BB ^ (n - 1)<(head+1)*BB ^ (n - 1):=by rw [Nat.mul_assoc];omega
 have:=Nat.lt_of_mul_lt_mul_right h3
 omega
set_option maxHeartbeats 4000000 in
theorem bV0 (u:List Nat) (D j n:Nat) (hu:aBm u) (hul:u.length<1000000) (hn:n=(lim D).length) (hn0:0<n) (hj:j+n<u.length) (top:Nat) (htop:(lim D)[n - 1]? =some top)
 (hP:aA1 ((u.drop j).take (n+1))<D*BB):
 aFp Tryz.prog gl 243 [.own 0 0 (aAb u).length,.ro 1 (aAb (lim D)),.int .i64 (j:Nat),.int .u64 (top:Nat)] [.row false 167 1 (aAb u)]
 (λx h=>x= .int .u32 ((aA1 ((u.drop j).take (n+1)) / D:Nat):Int)/\∃u':List Nat,h=[.row false 167 1 (aAb u')]/\u'.length=u.length/\aBm u'/\u'.take j=u.take j/\
   aA1 ((u'.drop j).take (n+1))=aA1 ((u.drop j).take (n+1)) % D/\u'.drop (j+n+1)=u.drop (j+n+1)):=by
 refine vgH bKc Tryz.func243 ?_
 have hlu:(aAb u).length=u.length:=limbs_length u
 have hlD:(aAb (lim D)).length=n:=by rw [limbs_length,hn]
 have g1:(aAb u)[0+(j+n)]? =some [.int .u32 ((u[j+n]:Nat):Int)]:=by rw [Nat.zero_add];exact aBe hj
 have g2:(aAb u)[0+(j+n - 1)]? =some [.int .u32 ((u[j+n - 1]:Nat):Int)]:=by rw [Nat.zero_add];exact aBe (by omega)
 have s1:u[j+n]<4294967296:=hu _ (List.getElem_mem _)
 have s2:u[j+n - 1]<4294967296:=hu _ (List.getElem_mem _)
 have hD0:D≠0:=λe=>by rw [e,aCi] at hn;simp at hn;omega
 repeat' first|refine sW ⟨?_⟩|(refine sp ?_ ?_<;>refine λh=>⟨?_⟩)|fail
 refine ⟨by decide +kernel,[0,0,0,6,15,31,63,127,0,0,0,1536,3584,7936,16128,32512,65535,131071],by decide +kernel,?_⟩
 repeat' first|refine sW ⟨?_⟩|(refine sp ?_ ?_<;>refine λh=>⟨?_⟩)|fail
 refine ⟨j+n,by omega,by omega,?_⟩
 repeat' first|refine sW ⟨?_⟩|(refine sp ?_ ?_<;>refine λh=>⟨?_⟩)|fail
 refine ⟨by decide,_,bI4 u[j+n] s1,?_⟩
 repeat' first|refine sW ⟨?_⟩|(refine sp ?_ ?_<;>refine λh=>⟨?_⟩)|fail
 refine ⟨j+n - 1,by omega,by omega,?_⟩
 repeat' first|refine sW ⟨?_⟩|(refine sp ?_ ?_<;>refine λh=>⟨?_⟩)|fail
 have htop0:0<top:=by
  have hne:=bFq D top (by rw [List.getLast?_eq_getElem?,<-hn];exact htop)
  omega
 have htopb:top<4294967296:=aAz D top (List.mem_of_getElem? htop)
 obtain ⟨H,hH⟩:∃H,H=u[j+n]*4294967296+u[j+n - 1]:=⟨_,rfl⟩
 have hHb:H<18446744073709551616:=by omega
 have hqH:H / top<=H:=Nat.div_le_self _ _
 obtain ⟨Q,hQ⟩:∃Q,Q=H / top:=⟨_,rfl⟩
 rw [<- hQ] at hqH
 refine ⟨by omega,(show ((u[j+n]*4294967296:Nat):Int)<18446744073709551616 by omega),by omega,(show ((u[j+n - 1]:Nat):Int)<18446744073709551616 by omega),((H:Nat):Int),(by rw [hH];exact cCy _ _ s1 s2),?_⟩
 repeat' first|refine sW ⟨?_⟩|(refine sp ?_ ?_<;>refine λh=>⟨?_⟩)|fail
 refine ⟨by omega,((Q:Nat):Int),(by rw [hQ];exact aTe H top hHb),?_⟩
 have hdb:min Q (4294967295:Int).toNat<4294967296:=by omega
 repeat' first|refine sW ⟨?_⟩|(refine sp ?_ ?_<;>refine λh=>⟨?_⟩)|fail
 refine ⟨by omega,by omega,by omega,by omega,j,n+1,by omega,by omega,?_⟩
 repeat' first|refine sW ⟨?_⟩|(refine sp ?_ ?_<;>refine λh=>⟨?_⟩)|fail
 conv=>whnf
 have hw:List.take (n+1) (List.drop j (aAb u))=aAb ((u.drop j).take (n+1)):=by rw [bIr,aCf]
 obtain ⟨w,hwd⟩:∃w,w=(u.drop j).take (n+1):=⟨_,rfl⟩
 have hwl:w.length=n+1:=by rw [hwd];simp;omega
 have hws:aBm w:=by rw [hwd];exact λx hx=>hu x (List.mem_of_mem_drop (List.mem_of_mem_take hx))
 have hcl:=aPp gl w (by omega)
 have hwe:aAb w=List.take (n+1) (List.drop j (aAb u)):=by rw [hw,hwd]
 refine .inl ⟨_,(hwe ▸ hcl:aAc Tryz.prog gl 244 [.ro 1 (List.take (n+1) (List.drop j (aAb u)))] (λx=>x= .fr 167 1 (aAb w)\/(w=[]/\x= .nils))),?_⟩
 rintro _ (rfl|⟨hnil,_⟩)
 rotate_left
 · rw [hnil] at hwl;simp at hwl
 conv=>whnf
 refine ⟨false,aEc _,?_⟩
 repeat' first|refine sW ⟨?_⟩|(refine sp ?_ ?_<;>refine λh=>⟨?_⟩)|fail
 conv=>whnf
 have hst:=bE2 gl (lim D) (min Q (4294967295:Int).toNat) 0 (aAz D) (by omega) hdb (by omega)
 rw [Nat.add_zero,aA4] at hst
 refine .inl ⟨_,hst,?_⟩
 rintro _ rfl
 repeat' first|refine sW ⟨?_⟩|(refine sp ?_ ?_<;>refine λh=>⟨?_⟩)|fail
 conv=>whnf
 have hPw:aA1 w<D*BB:=by rw [hwd];exact hP
 have hDn:D<BB ^ n:=(aCy D n).1 (by omega)
 have hq1:aA1 w / D<BB:=(Nat.div_lt_iff_lt_mul (by omega)).2 (by rw [Nat.mul_comm];exact hPw)
 have hge:aA1 w / D<=min Q (4294967295:Int).toNat:=by
  have hwj:w[n]? =some u[j+n]:=by
   have:((u.drop j).take (n+1))[n]? =some u[j+n]:=by rw [List.getElem?_take_of_lt (by omega),List.getElem?_drop,List.getElem?_eq_getElem hj]
   rw [<- hwd] at this;exact this
  have hwj1:w[n - 1]? =some u[j+n - 1]:=by
   have:((u.drop j).take (n+1))[n - 1]? =some u[j+n - 1]:=by
    rw [List.getElem?_take_of_lt (by omega),List.getElem?_drop]
    rw [show j+(n - 1)=j+n - 1 by omega]
    exact List.getElem?_eq_getElem (by omega)
   rw [<- hwd] at this;exact this
  have hw1:aA1 w<(H+1)*BB ^ (n - 1):=by
   have e1:=aBf (l:=w) (k:=n) (by omega)
   have e2:=aBf (l:=w) (k:=n - 1) (by omega)
   rw [show n - 1+1=n by omega] at e2
   rw [List.take_of_length_le (by omega)] at e1
   have hlt:=aNh (aKm hws (n - 1))
   rw [List.length_take,Nat.min_eq_left (by omega)] at hlt
   have hg1:w[n]=u[j+n]:=by rw [List.getElem?_eq_getElem (by omega)] at hwj;simpa using hwj
   have hg2:w[n - 1]=u[j+n - 1]:=by rw [List.getElem?_eq_getElem (by omega)] at hwj1;simpa using hwj1
   have hpw:BB ^ n=BB*BB ^ (n - 1):=by
    conv=>lhs;rw [show n=(n - 1)+1 by omega,Nat.pow_succ,Nat.mul_comm]
   rw [e1,e2,hg1,hg2,hH,hpw,Nat.add_mul,Nat.add_mul]
   have e3:BB*BB ^ (n - 1)*u[j+n]=u[j+n]*4294967296*BB ^ (n - 1):=by
    rw [Nat.mul_comm (u[j+n]) 4294967296,Nat.mul_assoc,Nat.mul_assoc,Nat.mul_comm (BB ^ (n - 1))];rfl
   have e4:BB ^ (n - 1)*u[j+n - 1]=u[j+n - 1]*BB ^ (n - 1):=Nat.mul_comm _ _
   omega
  have hDt:top*BB ^ (n - 1)<=D:=by
   have e2:=aBf (l:=lim D) (k:=n - 1) (by omega)
   have hg:(lim D)[n - 1]'(by omega)=top:=by
    rw [List.getElem?_eq_getElem (by omega)] at htop;simpa using htop
   rw [show n - 1+1=n by omega,List.take_of_length_le (by omega),aA4,hg,Nat.mul_comm] at e2
   omega
  have h1:=bSg hn0 hw1 hDt htop0
  rw [<- hQ] at h1
  have:BB=4294967296:=rfl
  omega
 obtain ⟨q0,hq0⟩:∃q0,q0=aA1 w / D:=⟨_,rfl⟩
 rw [<- hq0] at hge hq1
 refine ⟨[0,1,2,11,12,13],[0,1,2],λkk st=>∃d:Nat,q0<=d/\d<4294967296/\kk=d/\
  st=⟨[(0,.own 0 0 (aAb u).length),(1,.ro 1 (aAb (lim D))),(2,.int .i64 (j:Nat)),(11,.int .u64 (d:Nat)),(12,.own 1 0 (aAb w).length),(13,.own 2 0 (aAb (lim (D*d))).length)],
   [.row false 167 1 (aAb u),.row false 167 1 (aAb w),.row false 167 1 (aAb (lim (D*d)))]⟩,rfl,⟨_,_,hge,hdb,rfl,rfl⟩,?_⟩
 rintro kk _ ⟨d,hd1,hd2,hkk,rfl⟩
 have hDd:D*d<BB ^ (n+1):=by
  have h1:D*d<=BB ^ n*d:=Nat.mul_le_mul_right _ (Nat.le_of_lt hDn)
  have h2:BB ^ n*d<BB ^ n*BB:=Nat.mul_lt_mul_of_pos_left hd2 (Nat.pow_pos (by simp [BB]))
  rw [Nat.pow_succ];omega
 have hDdl:(lim (D*d)).length<=n+1:=(aCy _ _).2 hDd
 have hwf:List.take (aAb w).length (List.drop 0 (aAb w))=aAb w:=by rw [List.drop_zero,List.take_length]
 have hcl3:aAc Tryz.prog gl 244 [.ro 1 (List.take (aAb w).length (List.drop 0 (aAb w)))] (λx=>x= .fr 167 1 (aAb w)\/(w=[]/\x= .nils)):=by
  rw [hwf];exact aPp gl w (by omega)
 repeat' first|refine sW ⟨?_⟩|(refine sp ?_ ?_<;>refine λh=>⟨?_⟩)|fail
 conv=>whnf
 refine .inl ⟨_,hcl3,?_⟩
 rintro _ (rfl|⟨hnil,_⟩)
 rotate_left
 · rw [hnil] at hwl;simp at hwl
 conv=>whnf
 refine ⟨false,aEc _,?_⟩
 repeat' first|refine sW ⟨?_⟩|(refine sp ?_ ?_<;>refine λh=>⟨?_⟩)|fail
 conv=>whnf
 refine .inr ⟨[3],rfl,_,aFl gl w hws (by omega),?_⟩
 rintro _ _ ⟨rfl,hpre,rfl⟩
 have hwt:List.take (lim (aA1 w)).length (List.drop 0 (aAb w))=aAb (lim (aA1 w)):=by rw [List.drop_zero,aCf,<-hpre]
 have hdt:List.take (aAb (lim (D*d))).length (List.drop 0 (aAb (lim (D*d))))=aAb (lim (D*d)):=by rw [List.drop_zero,List.take_length]
 have hwl2:(lim (aA1 w)).length<=n+1:=by
  have:=congrArg List.length hpre
  rw [List.length_take] at this;omega
 have hcmp:=aLu gl (D*d) (aA1 w) (by omega) (by omega)
 have hcmp2:aAc Tryz.prog gl 240 [.ro 1 (List.take (aAb (lim (D*d))).length (List.drop 0 (aAb (lim (D*d))))),.ro 1 (List.take (lim (aA1 w)).length (List.drop 0 (aAb w)))] (λx=>x= .int .i64 (aZo (D*d) (aA1 w))):=by
  rw [hwt,hdt];exact hcmp
 repeat' first|refine sW ⟨?_⟩|(refine sp ?_ ?_<;>refine λh=>⟨?_⟩)|fail
 conv=>whnf
 refine .inl ⟨_,hcmp2,?_⟩
 rintro _ rfl
 rcases Nat.lt_or_ge (aA1 w) (D*d) with hlt|hle
 · have hc1:aZo (D*d) (aA1 w)=1:=aP8 hlt
   have hdq:q0<d:=by rw [hq0];exact (Nat.div_lt_iff_lt_mul (by omega)).2 (by rw [Nat.mul_comm];exact hlt)
   repeat' first|refine sW ⟨?_⟩|(refine sp ?_ ?_<;>refine λh=>⟨?_⟩)|fail
   all_goals try omega
   conv=>whnf
   have hDd1:D*(d - 1)=D*d - D:=by rw [Nat.mul_sub,Nat.mul_one]
   have hDle:D<=D*d:=Nat.le_mul_of_pos_right D (by omega)
   have hsub:=bV9 gl (lim (D*d)) (lim D) (aAz _) (aAz _) (by omega) (aKc hDle) (by rw [aA4,aA4];exact hDle)
   rw [aA4,aA4,<-hDd1] at hsub
   have hsub2:aAc Tryz.prog gl 268 [.ro 1 (List.take (aAb (lim (D*d))).length (List.drop 0 (aAb (lim (D*d))))),.ro 1 (aAb (lim D))] (λx=>x= .fr 167 1 (aAb (lim (D*(d - 1))))\/(lim (D*d)=[]/\x= .ro 1 (aAb []))):=by
    rw [hdt];exact hsub
   refine .inl ⟨_,hsub2,?_⟩
   rintro _ (rfl|⟨hnil,_⟩)
   rotate_left
   · have:=(aBb (D*d)).1 (by rw [hnil];rfl)
     omega
   conv=>whnf
   refine ⟨false,aEc _,?_⟩
   repeat' first|refine sW ⟨?_⟩|(refine sp ?_ ?_<;>refine λh=>⟨?_⟩)|fail
   refine ⟨[0,1,4],d - 1,rfl,by omega,d - 1,by omega,by omega,rfl,?_⟩
   have ed:(d:Int) - 1=((d - 1:Nat):Int):=by omega
   exact Eq.trans rfl (congrArg (λz=>(⟨[(0,.own 0 0 (aAb u).length),(1,.ro 1 (aAb (lim D))),(2,.int .i64 (j:Nat)),(11,.int .u64 z),(12,.own 1 0 (aAb w).length),(13,.own 2 0 (aAb (lim (D*(d - 1)))).length)],
    [.row false 167 1 (aAb u),.row false 167 1 (aAb w),.row false 167 1 (aAb (lim (D*(d - 1))))]⟩:St)) ed)
 · have hc1:aZo (D*d) (aA1 w)<=0:=by unfold aZo;split<;>(try split)<;>omega
   have hdq:d=q0:=Nat.le_antisymm (by rw [hq0];exact (Nat.le_div_iff_mul_le (by omega)).2 (by rw [Nat.mul_comm];exact hle)) hd1
   repeat' first|refine sW ⟨?_⟩|(refine sp ?_ ?_<;>refine λh=>⟨?_⟩)|fail
   all_goals try omega
   conv=>whnf
   obtain ⟨R,hR⟩:∃R,R=aA1 w % D:=⟨_,rfl⟩
   have hdm:=Nat.div_add_mod (aA1 w) D
   rw [<- hq0,<-hdq,<-hR] at hdm
   have hRD:R<D:=by rw [hR];exact Nat.mod_lt _ (by omega)
   have hRl:(lim R).length<=n:=by
    have:=aKc (Nat.le_of_lt hRD)
    omega
   have hsub:=bV9 gl w (lim (D*d)) hws (aAz _) (by omega) (by omega) (by rw [aA4];exact hle)
   rw [aA4,show aA1 w - D*d=R by omega] at hsub
   have hsub2:aAc Tryz.prog gl 268 [.ro 1 (List.take (aAb w).length (List.drop 0 (aAb w))),.ro 1 (List.take (aAb (lim (D*d))).length (List.drop 0 (aAb (lim (D*d)))))] (λx=>x= .fr 167 1 (aAb (lim R))\/(w=[]/\x= .ro 1 (aAb []))):=by
    rw [hdt,hwf];exact hsub
   refine .inl ⟨_,hsub2,?_⟩
   rintro _ (rfl|⟨hnil,_⟩)
   rotate_left
   · rw [hnil] at hwl;simp at hwl
   conv=>whnf
   refine ⟨false,aEc _,?_⟩
   repeat' first|refine sW ⟨?_⟩|(refine sp ?_ ?_<;>refine λh=>⟨?_⟩)|fail
   conv=>whnf
   obtain ⟨pd,hpd⟩:∃pd,pd=lim R++List.replicate (n+1 - (lim R).length) 0:=⟨_,rfl⟩
   have hpdl:pd.length=n+1:=by rw [hpd];simp;omega
   have hpdv:aA1 pd=R:=by rw [hpd,aE0,bIs,aA4];simp
   have hpds:aBm pd:=by
    rw [hpd]
    refine aA9 (aAz R) λx hx=>?_
    rw [List.mem_replicate] at hx
    rw [hx.2];simp [BB]
   have hlR:(aAb (lim R)).length=(lim R).length:=limbs_length _
   have hwll:(aAb w).length=n+1:=by rw [limbs_length,hwl]
   refine ⟨[0,2,11,14,65,66],[0,4],λkk st=>∃(i:Nat) (c:List Nat),i<=n+1/\kk=n+1 - i/\c=u.take j++pd.take i++u.drop (j+i)/\
    st=⟨[(0,.own 0 0 (aAb u).length),(2,.int .i64 (j:Nat)),(11,.int .u64 (d:Nat)),(14,.own 1 0 (aAb (lim R)).length),(65,.int .i64 ((aAb w).length:Nat)),(66,.int .i64 (i:Nat))],
     [.row false 167 1 (aAb c),.row false 167 1 (aAb (lim R))]⟩,rfl,⟨n+1,0,u,by omega,rfl,by simp,rfl⟩,?_⟩
   rintro kk _ ⟨i,c,hi,hkk,hc,rfl⟩
   have hcl':c.length=u.length:=by rw [hc];simp;omega
   rcases Nat.lt_or_ge i (n+1) with hin|hge2
   · have hgc:(aAb c)[0+(j+i)]? =some [.int .u32 ((c[j+i]'(by omega):Nat):Int)]:=by rw [Nat.zero_add];exact aBe (by omega)
     have hg3:((aAb c).set (0+(j+i)) [.int .u32 0])[0+(j+i)]? =some [.int .u32 0]:=by
      rw [List.getElem?_set_self (by simp;omega)]
     have hset:∀v,pd[i]'(by omega)=v->c.set (j+i) v=u.take j++pd.take (i+1)++u.drop (j+(i+1)):=λv hv=>by
      have h1:(u.take j++pd.take i).length=j+i:=by simp;omega
      rw [hc,List.set_append_right _ _ (by omega),h1,Nat.sub_self,List.drop_eq_getElem_cons (show j+i<u.length by omega),List.take_succ_eq_append_getElem (show i<pd.length by omega),hv]
      simp [List.append_assoc,Nat.add_assoc]
     rcases Nat.lt_or_ge i (lim R).length with hiR|hiR
     · have hpi:pd[i]'(by omega)=(lim R)[i]:=by
        have:pd[i]? =some (lim R)[i]:=by rw [hpd,List.getElem?_append_left hiR,List.getElem?_eq_getElem hiR]
        rw [List.getElem?_eq_getElem (by omega)] at this;simpa using this
       have hgR:(aAb (lim R))[0+i]? =some [.int .u32 (((lim R)[i]:Nat):Int)]:=by rw [Nat.zero_add];exact aBe hiR
       repeat' first|refine sW ⟨?_⟩|(refine sp ?_ ?_<;>refine λh=>⟨?_⟩)|fail
       all_goals try omega
       refine ⟨j+i,by omega,by omega,?_⟩
       repeat' first|refine sW ⟨?_⟩|(refine sp ?_ ?_<;>refine λh=>⟨?_⟩)|fail
       all_goals try omega
       refine ⟨j+i,by omega,by omega,?_⟩
       repeat' first|refine sW ⟨?_⟩|(refine sp ?_ ?_<;>refine λh=>⟨?_⟩)|fail
       have he:((aAb c).set (0+(j+i)) [.int .u32 0]).set (0+(j+i)) [.int .u32 (((lim R)[i]:Nat):Int)]=aAb (u.take j++pd.take (i+1)++u.drop (j+(i+1))):=by
        rw [List.set_set,Nat.zero_add,aD0 c (j+i) (lim R)[i] rfl,hset _ hpi]
       exact ⟨[0,1],n+1 - (i+1),rfl,by omega,i+1,u.take j++pd.take (i+1)++u.drop (j+(i+1)),by omega,rfl,rfl,
        Eq.trans rfl (congrArg (λz=>(⟨[(0,.own 0 0 (aAb u).length),(2,.int .i64 (j:Nat)),(11,.int .u64 (d:Nat)),(14,.own 1 0 (aAb (lim R)).length),(65,.int .i64 ((aAb w).length:Nat)),(66,.int .i64 ((i+1:Nat):Int))],
         [.row false 167 1 z,.row false 167 1 (aAb (lim R))]⟩:St)) he)⟩
     · have hpi:pd[i]'(by omega)=0:=by
        have:pd[i]? =some 0:=by rw [hpd,List.getElem?_append_right hiR,List.getElem?_replicate,if_pos (by omega)]
        rw [List.getElem?_eq_getElem (by omega)] at this;simpa using this
       repeat' first|refine sW ⟨?_⟩|(refine sp ?_ ?_<;>refine λh=>⟨?_⟩)|fail
       all_goals try omega
       refine ⟨j+i,by omega,by omega,?_⟩
       repeat' first|refine sW ⟨?_⟩|(refine sp ?_ ?_<;>refine λh=>⟨?_⟩)|fail
       all_goals try omega
       have he:(aAb c).set (0+(j+i)) [.int .u32 0]=aAb (u.take j++pd.take (i+1)++u.drop (j+(i+1))):=by
        rw [Nat.zero_add,aD0 c (j+i) 0 (e:=0) rfl,hset _ hpi]
       exact ⟨[0,1],n+1 - (i+1),rfl,by omega,i+1,u.take j++pd.take (i+1)++u.drop (j+(i+1)),by omega,rfl,rfl,
        Eq.trans rfl (congrArg (λz=>(⟨[(0,.own 0 0 (aAb u).length),(2,.int .i64 (j:Nat)),(11,.int .u64 (d:Nat)),(14,.own 1 0 (aAb (lim R)).length),(65,.int .i64 ((aAb w).length:Nat)),(66,.int .i64 ((i+1:Nat):Int))],
         [.row false 167 1 z,.row false 167 1 (aAb (lim R))]⟩:St)) he)⟩
   · repeat' first|refine sW ⟨?_⟩|(refine sp ?_ ?_<;>refine λh=>⟨?_⟩)|fail
     all_goals try omega
     conv=>whnf
     have ei:i=n+1:=by omega
     have hpt:pd.take (n+1)=pd:=List.take_of_length_le (by omega)
     have hc2:c=u.take j++pd++u.drop (j+n+1):=by rw [hc,ei,hpt,show j+(n+1)=j+n+1 by omega]
     have htj:(u.take j).length=j:=by simp;omega
     have hdj:c.drop j=pd++u.drop (j+n+1):=by
      rw [hc2,List.append_assoc];exact List.drop_left' htj
     refine ⟨[0],rfl,?_,c,rfl,hcl',?_,?_,?_,?_⟩
     · rw [<- hwd,<-hq0,<-hdq]
       exact congrArg (AV.int .u32) (by omega)
     · rw [hc2]
       exact aA9 (aA9 (aKm hu _) hpds) λx hx=>hu x (List.mem_of_mem_drop hx)
     · rw [hc2,List.append_assoc];exact List.take_left' htj
     · rw [hdj,List.take_left' hpdl,hpdv,<-hwd,hR]
     · have e1:c.drop (j+n+1)=(c.drop j).drop (n+1):=by rw [List.drop_drop];rfl
       rw [e1,hdj];exact List.drop_left' hpdl
end Go.V
namespace Go.V
open Go.N Go.Proofs
open Go.RowKit
theorem bOp {S S':Nat->Prop}{w:World}{b cap e sz:Nat}{es:List (List AV)}(h:aO7 S w b cap e sz es) (hs:S' b) (hsub:∀b,S b->S' b):aAi S' H0 w (.ro sz es) (.slice (some ⟨b,0,none⟩) es.length cap):=by
 obtain ⟨cur,vss,hh,hcs,h0,hn,hm,hll,hz,ht⟩:=h
 simp only [aAi]
 refine ⟨_,_,rfl,hn,hm,.inr ⟨_,rfl,hs,(Array.getElem?_eq_some_iff.1 hh).1,vss,aAr.later (aDm hsub) _ _ hll,hz,λi vs hi k u hk=>?_⟩⟩
 have hf:=aFi (λvs hv=>(hz vs hv).1) hi hk
 rw [<- ht,List.getElem?_take] at hf
 rw [aD3,show 0+(i*sz+k)=i*sz+k by omega,cell_of_row w _ _ cur e (0,0) hh]
 split at hf
 · simpa using hf
 · cases hf
theorem aAc.frozen {P:Program}{gl:Gl}{f:FuncId}{args:List AV}{e sz:Nat}{es:List (List AV)}(h:aAc P gl f args (λx=>x= .fr e sz es)):aAc P gl f args (λx=>x= .ro sz es):=by
 intro S w vs h1 h2 h3
 refine (h S w vs h1 h2 h3).mono λv w' hh=>?_
 obtain ⟨x,rfl,⟨S',F,hF,hnd,hFS,hS'⟩,hb⟩:=hh
 refine ⟨_,rfl,?_,hb⟩
 simp only [aDw] at hF
 obtain ⟨b,cap,rfl,rfl,hB,hrow⟩:=hF
 refine ⟨λq=>S' q\/q=b,[],?_,by simp,by simp,?_⟩
 · simp only [aDw]
   exact ⟨trivial,bOp hrow (.inr rfl) λq hq=>.inl hq⟩
 · rintro q (hq|rfl)
   · exact hS' q hq
   · obtain ⟨cur,vss,hh,_⟩:=hrow
     exact ⟨(Array.getElem?_eq_some_iff.1 hh).1,.inr hB⟩
variable (gl:Gl)
def bQp:Tab:=[(231,cAc),(167,cRx),(3,i3),(170,cVk),(113,cX3)]
theorem bG8:TOK Tryz.prog bQp:=⟨cBe,⟨cRy,⟨K3,⟨cVu,⟨cYa,trivial⟩⟩⟩⟩⟩
def LX (x:AV) (n:Nat):Prop:=x= .fr 167 1 (aAb (lim n))\/x= .ro 1 (aAb (lim n))\/(n=0/\x= .nils)
theorem bXa {b:Nat}(h:(lim b).length=1):b<4294967296/\0<b/\lim b=[b]:=by
 have h1:b<BB:=by
  have:=(aCy b 1).1 (by omega)
  simpa using this
 have h0:b≠0:=λe=>by rw [e,aCi] at h;simp at h
 refine ⟨h1,by omega,?_⟩
 rw [aJe h0,Nat.mod_eq_of_lt h1,Nat.div_eq_of_lt h1,aCi]
theorem cA2 (x n:Nat) (hn:n<32) (h:x*2 ^ n<4294967296):((x*2 ^ n:Nat):Int)=IntKind.wrap .u32 ((x:Int)*2 ^ (min ((n:Nat):Int).toNat (IntKind.bits .u32))):=by
 have e:min ((n:Nat):Int).toNat (IntKind.bits .u32)=n:=by simp [IntKind.bits];omega
 have e2:(x:Int)*2 ^ n=((x*2 ^ n:Nat):Int):=by simp
 rw [e,e2]
 generalize x*2 ^ n=q at h
 exact cDb (by omega) (by omega)
theorem cCh (n:Nat):((n / 2147483648:Nat):Int)=Int.fdiv (n:Int) (2 ^ (min (Int.toNat 31) (IntKind.bits .u32))):=by
 have e:(2:Int) ^ (min (Int.toNat 31) (IntKind.bits .u32))=((2147483648:Nat):Int):=by decide
 rw [e,Int.fdiv_eq_ediv_of_nonneg _ (by omega)];omega
set_option maxHeartbeats 4000000 in
theorem bRn (a b:Nat) (hb0:0<b) (ha:(lim a).length<400000) (hb:(lim b).length<400000):aAc Tryz.prog gl 205 [.ro 1 (aAb (lim a)),.ro 1 (aAb (lim b))]
 (λx=>∃q r,x= .tup [q,r]/\LX q (a / b)/\LX r (a % b)):=by
 refine vgo bG8 Tryz.func205 ?_
 have hla:(aAb (lim a)).length=(lim a).length:=limbs_length _
 have hlb:(aAb (lim b)).length=(lim b).length:=limbs_length _
 repeat' first|refine sW ⟨?_⟩|(refine sp ?_ ?_<;>refine λh=>⟨?_⟩)|fail
 conv=>whnf
 refine .inl ⟨_,aLu gl a b (by omega) (by omega),?_⟩
 rintro _ rfl
 rcases Nat.lt_or_ge a b with hab|hab
 · have hc:aZo a b= -1:=aH7 hab
   repeat' first|refine sW ⟨?_⟩|(refine sp ?_ ?_<;>refine λh=>⟨?_⟩)|fail
   all_goals try omega
   conv=>whnf
   exact ⟨_,_,rfl,.inr (.inr ⟨Nat.div_eq_of_lt hab,rfl⟩),.inr (.inl (by rw [Nat.mod_eq_of_lt hab]))⟩
 have hc:0<=aZo a b:=aI4.2 hab
 by_cases h1:(lim b).length=1
 · obtain ⟨hb1,_,hb2⟩:=bXa h1
   have hv0:(lim b)[0]'(by omega)=b:=by
    have:(lim b)[0]? =some b:=by rw [hb2];rfl
    rw [List.getElem?_eq_getElem (by omega)] at this;simpa using this
   obtain ⟨b0,hb0'⟩:∃b0,b0=(lim b)[0]'(by omega):=⟨_,rfl⟩
   repeat' first|refine sW ⟨?_⟩|(refine sp ?_ ?_<;>refine λh=>⟨?_⟩)|fail
   all_goals try omega
   conv=>whnf
   have hsm:=aVw gl (lim a) ((lim b)[0]'(by omega)) (aAz a) (by omega) (by omega) (by omega)
   refine .inl ⟨_,hsm,?_⟩
   rintro _ ⟨q,rfl,hq⟩
   have hmod:aA1 (lim a) % (lim b)[0]'(by omega)=a % b:=by rw [aA4,hv0]
   have hdiv:aA1 (lim a) / (lim b)[0]'(by omega)=a / b:=by rw [aA4,hv0]
   rw [hdiv] at hq
   have hmb:=Nat.mod_lt a hb0
   have hlq:LX q (a / b):=by
    rcases hq with h|⟨hnil,h⟩
    · exact .inl h
    · refine .inr (.inl ?_)
      have ha0:a=0:=(aBb a).1 (by rw [hnil];rfl)
      omega
   have hq2:q= .fr 167 1 (aAb (lim (a / b))):=by
    rcases hq with h|⟨hnil,h⟩
    · exact h
    · have ha0:a=0:=(aBb a).1 (by rw [hnil];rfl)
      omega
   subst hq2
   repeat' first|refine sW ⟨?_⟩|(refine sp ?_ ?_<;>refine λh=>⟨?_⟩)|fail
   conv=>whnf
   have htr:=aFl gl [(aA1 (lim a) % (lim b)[0]'(by omega)) % 4294967296] (by simp [aBm,BB];omega) (by simp)
   refine .inr ⟨[1],rfl,_,htr,?_⟩
   rintro _ _ ⟨rfl,hpre,rfl⟩
   repeat' first|refine sW ⟨?_⟩|(refine sp ?_ ?_<;>refine λh=>⟨?_⟩)|fail
   conv=>whnf
   refine .inr (.inl ⟨_,_,rfl,hlq,.inl ?_⟩)
   have hlv:aA1 [(aA1 (lim a) % (lim b)[0]'(by omega)) % 4294967296]=a % b:=by
    rw [hmod,Nat.mod_eq_of_lt (by omega)];simp [aA1]
   rw [hlv] at hpre
   show AV.fr _ _ ((aAb [(aA1 (lim a) % (lim b)[0]'(by omega)) % 4294967296]).take (lim (aA1 [(aA1 (lim a) % (lim b)[0]'(by omega)) % 4294967296])).length)=_
   rw [hlv,aCf,<-hpre]
 · have hb1:1<(lim b).length:=by
    have:=(aBb b).1
    omega
   obtain ⟨x,hx⟩:∃x,x=(lim b)[(lim b).length - 1]'(by omega):=⟨_,rfl⟩
   have hgx:(aAb (lim b))[(lim b).length - 1]? =some [.int .u32 ((x:Nat):Int)]:=by rw [hx];exact aBe (by omega)
   have hx1:x<4294967296:=by rw [hx];exact aAz b _ (List.getElem_mem _)
   have hx0:x≠0:=bFq b x (by rw [List.getLast?_eq_getElem?,List.getElem?_eq_getElem (by omega),<-hx])
   repeat' first|refine sW ⟨?_⟩|(refine sp ?_ ?_<;>refine λh=>⟨?_⟩)|fail
   all_goals try omega
   conv=>whnf
   refine ⟨[0,1,8],[],λkk st=>∃n:Nat,n<32/\x*2 ^ n<4294967296/\kk=32 - n/\st=⟨[(0,.ro 1 (aAb (lim a))),(1,.ro 1 (aAb (lim b))),(8,.int .u64 (n:Nat))],[]⟩,rfl,⟨32,0,by omega,by simpa using hx1,rfl,rfl⟩,?_⟩
   rintro kk _ ⟨n,hn,hxn,hkk,rfl⟩
   repeat' first|refine sW ⟨?_⟩|(refine sp ?_ ?_<;>refine λh=>⟨?_⟩)|fail
   refine ⟨(lim b).length - 1,_,by omega,hgx,?_⟩
   repeat' first|refine sW ⟨?_⟩|(refine sp ?_ ?_<;>refine λh=>⟨?_⟩)|fail
   refine ⟨by omega,_,cA2 x n hn hxn,?_⟩
   repeat' first|refine sW ⟨?_⟩|(refine sp ?_ ?_<;>refine λh=>⟨?_⟩)|fail
   refine ⟨by decide,_,cCh (x*2 ^ n),?_⟩
   obtain ⟨y,hy⟩:∃y,y=x*2 ^ n:=⟨_,rfl⟩
   rcases Nat.lt_or_ge (x*2 ^ n) 2147483648 with hlt|hge
   · have hy0:x*2 ^ n / 2147483648=0:=Nat.div_eq_of_lt hlt
     repeat' first|refine sW ⟨?_⟩|(refine sp ?_ ?_<;>refine λh=>⟨?_⟩)|fail
     all_goals try omega
     have hp1:x*2 ^ (n+1)<4294967296:=by rw [Nat.pow_succ,<-Nat.mul_assoc];omega
     have hn1:n+1<32:=by
      rcases Nat.lt_or_ge (n+1) 32 with h|h
      · exact h
      · have h2:2 ^ 32<=2 ^ (n+1):=Nat.pow_le_pow_right (by omega) h
        have h3:1*2 ^ (n+1)<=x*2 ^ (n+1):=Nat.mul_le_mul_right _ (by omega)
        omega
     exact ⟨[],32 - (n+1),rfl,by omega,n+1,hn1,hp1,rfl,rfl⟩
   · have hy0:1<=x*2 ^ n / 2147483648:=(Nat.le_div_iff_mul_le (by omega)).2 (by omega)
     clear hy
     repeat' first|refine sW ⟨?_⟩|(refine sp ?_ ?_<;>refine λh=>⟨?_⟩)|fail
     all_goals try omega
     conv=>whnf
     obtain ⟨A,hA⟩:∃A,A=a*2 ^ n:=⟨_,rfl⟩
     obtain ⟨V,hV⟩:∃V,V=b*2 ^ n:=⟨_,rfl⟩
     have hpw:0<2 ^ n:=Nat.pow_pos (by omega)
     have hsa:=bMh gl (lim a) n (aAz a) (by omega) hn
     have hsb:=(bMh gl (lim b) n (aAz b) (by omega) hn).frozen
     rw [aA4,<-hA] at hsa
     rw [aA4,<-hV] at hsb
     refine .inl ⟨_,hsa,?_⟩
     rintro _ rfl
     repeat' first|refine sW ⟨?_⟩|(refine sp ?_ ?_<;>refine λh=>⟨?_⟩)|fail
     conv=>whnf
     have hVpos:0<V:=by rw [hV];exact Nat.mul_pos hb0 hpw
     have hVA:V<=A:=by rw [hV,hA];exact Nat.mul_le_mul_right _ hab
     have haA:a<=A:=by rw [hA];exact Nat.le_mul_of_pos_right a hpw
     have hbV:b<=V:=by rw [hV];exact Nat.le_mul_of_pos_right b hpw
     have hlA1:=aKc haA
     have hlV1:=aKc hbV
     have hlVA:=aKc hVA
     have hlA2:(lim A).length<=(lim a).length+1:=by
      refine (aCy _ _).2 ?_
      have h1:a<BB ^ (lim a).length:=(aCy a _).1 (Nat.le_refl _)
      have h2:2 ^ n<=BB:=(Nat.pow_le_pow_right (by omega) (show n<=32 by omega):2 ^ n<=2 ^ 32)
      have h3:a*2 ^ n<BB ^ (lim a).length*2 ^ n:=Nat.mul_lt_mul_of_pos_right h1 hpw
      have h4:BB ^ (lim a).length*2 ^ n<=BB ^ (lim a).length*BB:=Nat.mul_le_mul_left _ h2
      rw [hA,Nat.pow_succ];omega
     have hlA:(aAb (lim A)).length=(lim A).length:=limbs_length _
     have hlV:(aAb (lim V)).length=(lim V).length:=limbs_length _
     have hlU:(aAb (lim A++[0])).length=(lim A).length+1:=by simp
     refine ⟨Nat.le_refl _,(show ((aAb (lim A)).length+1)*4<=_ by omega),_,aUc (lim A) 0,?_⟩
     repeat' first|refine sW ⟨?_⟩|(refine sp ?_ ?_<;>refine λh=>⟨?_⟩)|fail
     conv=>whnf
     refine .inl ⟨_,hsb,?_⟩
     rintro _ rfl
     repeat' first|refine sW ⟨?_⟩|(refine sp ?_ ?_<;>refine λh=>⟨?_⟩)|fail
     all_goals try omega
     conv=>whnf
     obtain ⟨m,hm⟩:∃m,m=(lim A).length+1 - (lim V).length:=⟨_,rfl⟩
     refine ⟨by omega,by omega,by omega,(show (_:Int)*4<=_ by omega),m,by omega,?_⟩
     obtain ⟨tp,htp⟩:∃tp,tp=(lim V)[(lim V).length - 1]'(by omega):=⟨_,rfl⟩
     have hgV:(aAb (lim V))[(lim V).length - 1]? =some [.int .u32 ((tp:Nat):Int)]:=by rw [htp];exact aBe (by omega)
     have htpb:tp<4294967296:=by rw [htp];exact aAz V _ (List.getElem_mem _)
     repeat' first|refine sW ⟨?_⟩|(refine sp ?_ ?_<;>refine λh=>⟨?_⟩)|fail
     refine ⟨(lim V).length - 1,_,by omega,hgV,?_⟩
     repeat' first|refine sW ⟨?_⟩|(refine sp ?_ ?_<;>refine λh=>⟨?_⟩)|fail
     conv=>whnf
     have hU0:aA1 (lim A++[0])=A:=by rw [aE0,aA4];simp [aA1]
     have hVn:V<BB ^ (lim V).length:=(aCy V _).1 (Nat.le_refl _)
     have hVn1:BB ^ ((lim V).length - 1)<=V:=by
      rcases Nat.lt_or_ge V (BB ^ ((lim V).length - 1)) with h|h
      · have:=(aCy V _).2 h
        omega
      · exact h
     refine ⟨[8,9,10,11,12,13],[2,3],λkk st=>∃(k:Nat) (U qs:List Nat),k<=m/\kk=k/\U.length=(lim A).length+1/\aBm U/\U.take k=(lim A++[0]).take k/\aA1 (U.drop k)<V/\qs.length=m - k/\aBm qs/\
      aA1 ((lim A++[0]).drop k)=V*aA1 qs+aA1 (U.drop k)/\
      st=⟨[(8,.int .u64 (n:Nat)),(9,.own 0 0 (aAb (lim A++[0])).length),(10,.ro 1 (aAb (lim V))),(11,.own 1 0 m),(12,.int .u64 (tp:Nat)),(13,.int .i64 ((k:Int) - 1))],
       [.row false 167 1 (aAb U),.row false 167 1 (aAb (List.replicate k 0++qs))]⟩,rfl,
      ⟨m,m,lim A++[0],[],Nat.le_refl _,rfl,by simp,aA9 (aAz A) (by simp [aBm,BB]),rfl,?_,by simp,by simp [aBm],by simp [aA1],?_⟩,?_⟩
     · have e1:(lim A++[0]).drop m=(lim A).drop m++[0]:=by rw [List.drop_append_of_le_length (by omega)]
       rw [e1,aE0]
       have h1:=aNh (l:=(lim A).drop m) λx hx=>aAz A x (List.mem_of_mem_drop hx)
       rw [List.length_drop,show (lim A).length - m=(lim V).length - 1 by omega] at h1
       simp only [aA1];omega
     · have he:aAb (List.replicate m 0++[])=List.replicate m [AV.int .u32 0]:=by simp [aAb]
       rw [he];rfl
     rintro kk _ ⟨k,U,qs,hk,hkk,hUl,hUs,hUt,hUd,hql,hqs,hinv,rfl⟩
     have hUL:(aAb U).length=(aAb (lim A++[0])).length:=by simp [hUl]
     rcases k with _|k
     · repeat' first|refine sW ⟨?_⟩|(refine sp ?_ ?_<;>refine λh=>⟨?_⟩)|fail
       all_goals try omega
       conv=>whnf
       simp only [List.drop_zero] at hinv hUd
       rw [hU0] at hinv
       have hR:aA1 U=A % V:=by rw [hinv,Nat.mul_add_mod,Nat.mod_eq_of_lt hUd]
       have hQ:aA1 qs=A / V:=by rw [hinv,Nat.mul_add_div hVpos,Nat.div_eq_of_lt hUd,Nat.add_zero]
       have hQ2:aA1 qs=a / b:=by rw [hQ,hA,hV,Nat.mul_div_mul_right _ _ hpw]
       have hR2:aA1 U=(a % b)*2 ^ n:=by rw [hR,hA,hV,Nat.mul_mod_mul_right]
       have hR3:aA1 U / 2 ^ n=a % b:=by rw [hR2,Nat.mul_div_cancel _ hpw]
       have hcU:aAc Tryz.prog gl 244 [.ro 1 (List.take (aAb (lim A++[0])).length (List.drop 0 (aAb U)))] (λx=>x= .fr 167 1 (aAb U)\/(U=[]/\x= .nils)):=by
        rw [<- hUL,List.drop_zero,List.take_length];exact aPp gl U (by omega)
       refine .inl ⟨_,hcU,?_⟩
       rintro _ (rfl|⟨hnil,_⟩)
       rotate_left
       · rw [hnil] at hUl;simp at hUl
       conv=>whnf
       refine ⟨false,aEc _,?_⟩
       repeat' first|refine sW ⟨?_⟩|(refine sp ?_ ?_<;>refine λh=>⟨?_⟩)|fail
       conv=>whnf
       refine .inr ⟨[2],rfl,_,aFl gl U hUs (by omega),?_⟩
       rintro _ _ ⟨rfl,hpre,rfl⟩
       repeat' first|refine sW ⟨?_⟩|(refine sp ?_ ?_<;>refine λh=>⟨?_⟩)|fail
       refine ⟨by omega,_,bOs n hn,?_⟩
       repeat' first|refine sW ⟨?_⟩|(refine sp ?_ ?_<;>refine λh=>⟨?_⟩)|fail
       conv=>whnf
       have hRl:(lim (aA1 U)).length<1000000:=by
        have:=congrArg List.length hpre
        rw [List.length_take] at this;omega
       have hn32:2 ^ n<4294967296:=Nat.pow_lt_pow_right (n:=32) (by omega) hn
       have hsm:=aVw gl (lim (aA1 U)) (2 ^ n) (aAz _) hRl hpw hn32
       rw [aA4,hR3] at hsm
       have hsm2:aAc Tryz.prog gl 241 [.ro 1 (List.take (lim (aA1 U)).length (List.drop 0 (aAb U))),.int .u64 ((2 ^ n:Nat):Int)]
        (λx=>∃q,x= .tup [q,.int .u64 ((aA1 U % 2 ^ n:Nat):Int)]/\(q= .fr 167 1 (aAb (lim (a % b)))\/(lim (aA1 U)=[]/\q= .ro 1 (aAb [])))):=by
        have e:List.take (lim (aA1 U)).length (List.drop 0 (aAb U))=aAb (lim (aA1 U)):=by rw [List.drop_zero,aCf,<-hpre]
        rw [e];exact hsm
       have hqsl:(aAb (List.replicate 0 0++qs)).length=m:=by simp [hql]
       have htq:=aFl gl (List.replicate 0 0++qs) (by simpa using hqs) (by simp;omega)
       rw [hqsl] at htq
       have hqv:aA1 (List.replicate 0 0++qs)=a / b:=by simpa using hQ2
       refine .inl ⟨_,hsm2,?_⟩
       rintro _ ⟨q,rfl,rfl|⟨hnil,rfl⟩⟩
       · conv=>whnf
         refine ⟨false,aZt (aEc _) bFc,?_⟩
         repeat' first|refine sW ⟨?_⟩|(refine sp ?_ ?_<;>refine λh=>⟨?_⟩)|fail
         conv=>whnf
         refine .inr ⟨[1],rfl,_,htq,?_⟩
         rintro _ _ ⟨rfl,hpre2,rfl⟩
         repeat' first|refine sW ⟨?_⟩|(refine sp ?_ ?_<;>refine λh=>⟨?_⟩)|fail
         conv=>whnf
         rw [hqv] at hpre2
         refine .inr (.inl ?_)
         repeat' first|refine sW ⟨?_⟩|(refine sp ?_ ?_<;>refine λh=>⟨?_⟩)|fail
         conv=>whnf
         refine ⟨_,_,rfl,.inl ?_,.inl rfl⟩
         show AV.fr _ _ ((aAb (List.replicate 0 0++qs)).take (lim (aA1 (List.replicate 0 0++qs))).length)=_
         rw [hqv,aCf,<-hpre2]
       · repeat' first|refine sW ⟨?_⟩|(refine sp ?_ ?_<;>refine λh=>⟨?_⟩)|fail
         conv=>whnf
         refine .inr ⟨[1],rfl,_,htq,?_⟩
         rintro _ _ ⟨rfl,hpre2,rfl⟩
         repeat' first|refine sW ⟨?_⟩|(refine sp ?_ ?_<;>refine λh=>⟨?_⟩)|fail
         conv=>whnf
         rw [hqv] at hpre2
         have hz:a % b=0:=by
          have h0:=(aBb (aA1 U)).1 (by rw [hnil];rfl)
          rw [<- hR3,h0];simp
         refine .inr (.inl ?_)
         repeat' first|refine sW ⟨?_⟩|(refine sp ?_ ?_<;>refine λh=>⟨?_⟩)|fail
         conv=>whnf
         refine ⟨_,_,rfl,.inl ?_,.inr (.inl (by rw [hz,aCi]))⟩
         show AV.fr _ _ ((aAb (List.replicate 0 0++qs)).take (lim (aA1 (List.replicate 0 0++qs))).length)=_
         rw [hqv,aCf,<-hpre2]
     · rw [show ((k+1:Nat):Int) - 1=k by omega]
       have hkU:k<U.length:=by omega
       have hup:aA1 (U.drop (k+(lim V).length+1))=0:=by
        have h1:=aHs (U.drop (k+1)) (lim V).length (by simp;omega)
        rw [List.drop_drop,show k+1+(lim V).length=k+(lim V).length+1 by omega] at h1
        rcases Nat.eq_zero_or_pos (aA1 (U.drop (k+(lim V).length+1))) with h|h
        · exact h
        · have h2:BB ^ (lim V).length*1<=BB ^ (lim V).length*aA1 (U.drop (k+(lim V).length+1)):=Nat.mul_le_mul_left _ h
          omega
       have hwin:aA1 ((U.drop k).take ((lim V).length+1))=aA1 (U.drop k):=by
        have h1:=aHs (U.drop k) ((lim V).length+1) (by simp;omega)
        rw [List.drop_drop,<-Nat.add_assoc,hup] at h1
        omega
       have hdk:=aRp hkU
       have hUk:U[k]<BB:=hUs _ (List.getElem_mem _)
       have hwb:aA1 ((U.drop k).take ((lim V).length+1))<V*BB:=by
        rw [hwin,hdk]
        have h1:BB*(aA1 (U.drop (k+1))+1)<=BB*V:=Nat.mul_le_mul_left _ hUd
        rw [Nat.mul_add,Nat.mul_comm BB V] at h1
        omega
       have hgs:=bV0 gl U V k (lim V).length hUs (by omega) rfl (by omega) (by omega) tp (by rw [htp];exact List.getElem?_eq_getElem _) hwb
       rw [hUL,hwin] at hgs
       have hgq:(aAb (List.replicate (k+1) 0++qs))[0+k]? =some [.int .u32 ((0:Nat):Int)]:=by
        rw [Nat.zero_add,aBe (by simp;omega)]
        congr 4
        rw [List.getElem_append_left (by simp),List.getElem_replicate]
       repeat' first|refine sW ⟨?_⟩|(refine sp ?_ ?_<;>refine λh=>⟨?_⟩)|fail
       all_goals try omega
       conv=>whnf
       refine .inr ⟨[0],rfl,_,hgs,?_⟩
       rintro _ _ ⟨rfl,U',rfl,hU'l,hU's,hU't,hU'w,hU'd⟩
       obtain ⟨dgt,hdgt⟩:∃dgt,dgt=aA1 (U.drop k) / V:=⟨_,rfl⟩
       have hdgb:dgt<BB:=by
        rw [hdgt]
        exact (Nat.div_lt_iff_lt_mul hVpos).2 (by rw [Nat.mul_comm,<-hwin];exact hwb)
       have hdm:=Nat.div_add_mod (aA1 (U.drop k)) V
       rw [<- hdgt] at hdm
       have hU'v:aA1 (U'.drop k)=aA1 (U.drop k) % V:=by
        have h1:=aHs (U'.drop k) ((lim V).length+1) (by simp;omega)
        rw [List.drop_drop,<-Nat.add_assoc,hU'd,hup,hU'w,Nat.mul_zero,Nat.add_zero] at h1
        exact h1
       repeat' first|refine sW ⟨?_⟩|(refine sp ?_ ?_<;>refine λh=>⟨?_⟩)|fail
       all_goals try omega
       have hset:(List.replicate (k+1) 0++qs).set k dgt=List.replicate k 0++dgt::qs:=by
        rw [List.replicate_succ',List.append_assoc,List.set_append_right _ _ (by simp)]
        simp
       have he:(aAb (List.replicate (k+1) 0++qs)).set (0+k) [AV.int .u32 ((aA1 (U.drop k) / V:Nat):Int)]=aAb (List.replicate k 0++dgt::qs):=by
        rw [Nat.zero_add,aD0 _ _ dgt (by rw [hdgt]),hset]
       refine ⟨[0,1],k,rfl,by omega,k,U',dgt::qs,by omega,rfl,by omega,hU's,?_,?_,by simp;omega,?_,?_,?_⟩
       · have h1:U.take k=(U.take (k+1)).take k:=by rw [List.take_take,Nat.min_eq_left (by omega)]
         have h2:(lim A++[0]).take k=((lim A++[0]).take (k+1)).take k:=by rw [List.take_take,Nat.min_eq_left (by omega)]
         rw [hU't,h1,hUt,<-h2]
       · rw [hU'v];exact Nat.mod_lt _ hVpos
       · intro y hy
         simp only [List.mem_cons] at hy
         rcases hy with rfl|hy
         · exact hdgb
         · exact hqs y hy
       · have hk0:k<(lim A++[0]).length:=by simp;omega
         have hU0k:(lim A++[0])[k]=U[k]:=by
          have h1:(U.take (k+1))[k]? =((lim A++[0]).take (k+1))[k]? :=by rw [hUt]
          rw [List.getElem?_take_of_lt (by omega),List.getElem?_take_of_lt (by omega),List.getElem?_eq_getElem hkU,List.getElem?_eq_getElem hk0] at h1
          simpa using h1.symm
         rw [aRp hk0,hinv,hU0k,hU'v]
         simp only [aA1]
         rw [Nat.mul_add,Nat.mul_add,<-Nat.mul_assoc BB V,Nat.mul_comm BB V,Nat.mul_assoc]
         omega
       · exact Eq.trans rfl (congrArg (λz=>(⟨[(8,.int .u64 (n:Nat)),(9,.own 0 0 (aAb (lim A++[0])).length),(10,.ro 1 (aAb (lim V))),(11,.own 1 0 m),(12,.int .u64 (tp:Nat)),(13,.int .i64 ((k:Int) - 1))],
          [.row false 167 1 (aAb U'),.row false 167 1 z]⟩:St)) he)
end Go.V
namespace Go.V
open Go.N Go.Proofs
variable (gl:Gl)
def bKp:Tab:=[(21,i21)]
theorem bBh:TOK Tryz.prog bKp:=⟨K21,trivial⟩
def bCd:Tab:=[(9,i9),(21,i21),(4,i4)]
theorem aU1:TOK Tryz.prog bCd:=⟨K9,⟨K21,⟨K4,trivial⟩⟩⟩
def bCc:Tab:=[(9,i9),(226,cYm),(4,i4)]
theorem aU0:TOK Tryz.prog bCc:=⟨K9,⟨cYs,⟨K4,trivial⟩⟩⟩
def bQg:Tab:=[(9,i9),(5,i5),(3,i3),(226,cYm)]
theorem bGz:TOK Tryz.prog bQg:=⟨K9,⟨K5,⟨K3,⟨cYs,trivial⟩⟩⟩⟩
def bUs:Tab:=[(9,i9),(4,i4),(231,cAc),(167,cRx)]
theorem bJy:TOK Tryz.prog bUs:=⟨K9,⟨K4,⟨cBe,⟨cRy,trivial⟩⟩⟩⟩
def bD2 (r:Int):Bool:=decide (r<48) || decide (57<r)
theorem aY3 (r:Int):aAc Tryz.prog gl 198 [.int .i32 r] (λx=>x= .bool (bD2 r)):=by
 refine vgo bBh Tryz.func198 ?_
 repeat' first|refine sW ⟨?_⟩|(refine sp ?_ ?_<;>refine λh=>⟨?_⟩)|fail
 all_goals (conv=>whnf)
 all_goals refine congrArg AV.bool ?_
 · simp [bD2,h]
 · simp [bD2,h]
theorem bT3 {s:ByteArray}{k:Nat}(h:k<s.toList.length):(s.get! k)=s.toList[k]:=by
 have h2:k<s.size:=by rw [Go.N.len_toList] at h;exact h
 have e:s.toList[k]? =some (s.get! k):=by
  rw [ByteArray.toList_eq]
  cases s with
  |mk d=>
   have hd:k<d.size:=h2
   simp [ByteArray.get!,hd]
 rw [List.getElem?_eq_getElem h] at e
 simpa using e.symm
theorem bMs {s:ByteArray}{k:Nat}(h:k<s.toList.length) (hb:s.toList[k].toNat<128):Utf8.decode s k=(s.toList[k].toNat,1):=by
 unfold Utf8.decode
 simp only [Nat.add_zero,bT3 h]
 rw [if_pos hb]
theorem bMu {s:ByteArray}{k:Nat}(h:k<s.toList.length) (hb:¬s.toList[k].toNat<128):128<=(Utf8.decode s k).1:=by
 unfold Utf8.decode
 simp only [Nat.add_zero,bT3 h]
 rw [if_neg hb]
 split
 · split
   · simp;omega
   · simp [Utf8.runeError]
 · split
   · split
     · rename_i h1
       simp at h1 ⊢;omega
     · simp [Utf8.runeError]
   · split
     · split
       · rename_i h1
         simp at h1 ⊢;omega
       · simp [Utf8.runeError]
     · simp [Utf8.runeError]
set_option maxHeartbeats 2000000 in
theorem bDe (s:ByteArray) (hs:s.size<9000000000):aAc Tryz.prog gl 230 [.str s,.fn 198 [],.bool true] (λx=>∃k:Int,x= .int .i64 k/\(k<0↔s.toList.all aCe=true)):=by
 refine vgo aU1 Tryz.func230 ?_
 have hl:=Go.N.len_toList s
 repeat' first|refine sW ⟨?_⟩|(refine sp ?_ ?_<;>refine λh=>⟨?_⟩)|fail
 refine ⟨[1,2,10],[0],λm st=>∃k:Nat,k<=s.size/\m=s.size - k/\(s.toList.take k).all aCe=true/\st=⟨[(1,.fn 198 []),(2,.bool true),(10,.bptr 0 0)],[.iter s k]⟩,rfl,⟨s.size,0,by omega,rfl,rfl,rfl⟩,?_⟩
 rintro m _ ⟨k,hk,hm,hd,rfl⟩
 repeat' first|refine sW ⟨?_⟩|(refine sp ?_ ?_<;>refine λh=>⟨?_⟩)|fail
 · have hlt:k<s.size:=by simpa using h
   have hk2:k<s.toList.length:=by omega
   rcases Nat.lt_or_ge s.toList[k].toNat 128 with hb|hb
   · refine ⟨_,_,(bMs hk2 hb).symm,?_⟩
     have hdec:bD2 (s.toList[k].toNat:Int)= !aCe s.toList[k]:=by
      rw [Bool.eq_iff_iff]
      simp only [bD2,aCe,Bool.or_eq_true,decide_eq_true_eq,Bool.not_eq_true',Bool.and_eq_false_iff,decide_eq_false_iff_not]
      omega
     have hc:=aY3 gl ((s.toList[k].toNat:Nat):Int)
     by_cases hdg:aCe s.toList[k]=true
     · rw [hdec,hdg] at hc
       repeat' first|refine sW ⟨?_⟩|(refine sp ?_ ?_<;>refine λh=>⟨?_⟩)|fail
       conv=>whnf
       refine .inl ⟨_,hc,?_⟩
       rintro _ rfl
       repeat' first|refine sW ⟨?_⟩|(refine sp ?_ ?_<;>refine λh=>⟨?_⟩)|fail
       refine ⟨[0],s.size - (k+1),rfl,by omega,k+1,by omega,rfl,?_,rfl⟩
       rw [List.take_succ_eq_append_getElem hk2,List.all_append,hd];simp [hdg]
     · rw [hdec,Bool.eq_false_iff.2 hdg] at hc
       repeat' first|refine sW ⟨?_⟩|(refine sp ?_ ?_<;>refine λh=>⟨?_⟩)|fail
       conv=>whnf
       refine .inl ⟨_,hc,?_⟩
       rintro _ rfl
       repeat' first|refine sW ⟨?_⟩|(refine sp ?_ ?_<;>refine λh=>⟨?_⟩)|fail
       conv=>whnf
       refine ⟨k,rfl,?_⟩
       have:s.toList.all aCe=false:=by rw [List.all_eq_false];exact ⟨_,List.getElem_mem hk2,hdg⟩
       rw [this];simp
   · have hc128:=bMu hk2 (by omega)
     obtain ⟨⟨c,m2⟩,hcm⟩:∃p,p=Utf8.decode s k:=⟨_,rfl⟩
     rw [<- hcm] at hc128
     have hc:=aY3 gl ((c:Nat):Int)
     have hv:bD2 (c:Int)=true:=by
      simp only [bD2,Bool.or_eq_true,decide_eq_true_eq]
      right
      have:128<=c:=hc128
      omega
     rw [hv] at hc
     refine ⟨c,m2,hcm,?_⟩
     repeat' first|refine sW ⟨?_⟩|(refine sp ?_ ?_<;>refine λh=>⟨?_⟩)|fail
     conv=>whnf
     refine .inl ⟨_,hc,?_⟩
     rintro _ rfl
     repeat' first|refine sW ⟨?_⟩|(refine sp ?_ ?_<;>refine λh=>⟨?_⟩)|fail
     conv=>whnf
     refine ⟨k,rfl,?_⟩
     have:s.toList.all aCe=false:=by
      rw [List.all_eq_false]
      refine ⟨_,List.getElem_mem hk2,?_⟩
      simp [aCe];omega
     rw [this];simp
 · repeat' first|refine sW ⟨?_⟩|(refine sp ?_ ?_<;>refine λh=>⟨?_⟩)|fail
   conv=>whnf
   have hge:¬k<s.size:=λhh=>by
    have:Nat.blt k s.size=true:=by simpa using hh
    rw [this] at h;cases h
   refine ⟨-1,rfl,?_⟩
   rw [List.take_of_length_le (by omega)] at hd
   simp [hd]
theorem aPr (s:ByteArray) (hs:s.size<9000000000):aAc Tryz.prog gl 197 [.str s,.fn 198 []] (λx=>∃k:Int,x= .int .i64 k/\(k<0↔s.toList.all aCe=true)):=by
 refine vgo aU0 Tryz.func197 ?_
 repeat' first|refine sW ⟨?_⟩|(refine sp ?_ ?_<;>refine λh=>⟨?_⟩)|fail
 conv=>whnf
 refine .inl ⟨_,bDe gl s hs,?_⟩
 rintro _ ⟨k,rfl,hk⟩
 repeat' first|refine sW ⟨?_⟩|(refine sp ?_ ?_<;>refine λh=>⟨?_⟩)|fail
 conv=>whnf
 exact ⟨k,rfl,hk⟩
theorem aLr (s:ByteArray) (hs:s.size<9000000000):aAc Tryz.prog gl 157 [.str s] (λx=>x= .bool (aEi s.toList)):=by
 refine vgo bGz Tryz.func157 ?_
 have hl:=Go.N.len_toList s
 rcases Nat.eq_zero_or_pos s.size with h0|hpos
 · have e:s.toList=[]:=List.eq_nil_of_length_eq_zero (by omega)
   have e2:s=⟨#[]⟩:=aBl (by rw [e,ByteArray.toList_eq])
   rw [e]
   repeat' first|refine sW ⟨?_⟩|(refine sp ?_ ?_<;>refine λh=>⟨?_⟩)|fail
   · conv=>whnf
     rfl
   · exact absurd e2 h
 · have hne:¬s=⟨#[]⟩:=λe=>by rw [e] at hpos;exact absurd hpos (by decide)
   have hh:(s.toList[0]? =some 48)↔((s.toList[0]'(by omega)).toNat:Int)=48:=by
    rw [List.getElem?_eq_getElem (by omega),Option.some.injEq,<-UInt8.toNat_inj]
    simp;omega
   have fin:∀k:Int,(k<0↔s.toList.all aCe=true)->(s.toList.length=1\/¬s.toList[0]? =some 48)->decide (k<0)=aEi s.toList:=λk hk h1=>by
    rw [Bool.eq_iff_iff,decide_eq_true_eq,hk]
    constructor
    · intro hd
      exact aWb hd (λe=>by rw [e] at hl;simp at hl;omega) h1
    · intro hd
      simp only [aEi,Bool.and_eq_true] at hd
      exact hd.1
   repeat' first|refine sW ⟨?_⟩|(refine sp ?_ ?_<;>refine λh=>⟨?_⟩)|fail
   · exact absurd h hne
   · conv=>whnf
     rename_i h1
     have h0:=hh.2 h1
     have h2:¬s.toList.length=1:=by omega
     refine congrArg AV.bool (Eq.symm ?_)
     simp [aEi,h0,h2]
   · conv=>whnf
     refine .inl ⟨_,aPr gl s hs,?_⟩
     rintro _ ⟨k,rfl,hk⟩
     repeat' first|refine sW ⟨?_⟩|(refine sp ?_ ?_<;>refine λh=>⟨?_⟩)|fail
     all_goals (conv=>whnf)
     all_goals refine congrArg AV.bool ?_
     all_goals exact fin k hk (.inl (by omega))
   · conv=>whnf
     refine .inl ⟨_,aPr gl s hs,?_⟩
     rintro _ ⟨k,rfl,hk⟩
     repeat' first|refine sW ⟨?_⟩|(refine sp ?_ ?_<;>refine λh=>⟨?_⟩)|fail
     all_goals (conv=>whnf)
     all_goals refine congrArg AV.bool ?_
     all_goals exact fin k hk (.inr (λe=>absurd (hh.1 e) (by assumption)))
theorem bVu (m n:Nat) (hm:(dec m).length<300000) (hn:(dec n).length<300000):aAc Tryz.prog gl 204 [.str (aAx m),.str (aAx n)] (λx=>∃p q,x= .tup [p,q,.bool true]/\LX p m/\LX q n):=by
 refine vgo bJy Tryz.func204 ?_
 have hzm:=aAq m
 have hzn:=aAq n
 have h1:=aLr gl (aAx m) (by omega)
 have h2:=aLr gl (aAx n) (by omega)
 rw [aAu,aI9] at h1 h2
 have hpm:=List.length_pos_iff.2 (aEt m)
 have hpn:=List.length_pos_iff.2 (aEt n)
 have hrm:=bTx gl (aAx m) (aV0 m) (by omega)
 have hrn:=bTx gl (aAx n) (aV0 n) (by omega)
 rw [aF7] at hrm hrn
 have hlm:=aBd m
 have hln:=aBd n
 repeat' first|refine sW ⟨?_⟩|(refine sp ?_ ?_<;>refine λh=>⟨?_⟩)|fail
 conv=>whnf
 refine .inl ⟨_,h1,?_⟩
 rintro _ rfl
 repeat' first|refine sW ⟨?_⟩|(refine sp ?_ ?_<;>refine λh=>⟨?_⟩)|fail
 conv=>whnf
 refine .inl ⟨_,h2,?_⟩
 rintro _ rfl
 repeat' first|refine sW ⟨?_⟩|(refine sp ?_ ?_<;>refine λh=>⟨?_⟩)|fail
 conv=>whnf
 refine .inl ⟨_,hrm,?_⟩
 rintro _ (rfl|⟨h0,_⟩)
 rotate_left
 · omega
 repeat' first|refine sW ⟨?_⟩|(refine sp ?_ ?_<;>refine λh=>⟨?_⟩)|fail
 conv=>whnf
 refine .inr ⟨[0],rfl,_,aFl gl (lim m) (aAz m) (by omega),?_⟩
 rintro _ _ ⟨rfl,hp1,rfl⟩
 repeat' first|refine sW ⟨?_⟩|(refine sp ?_ ?_<;>refine λh=>⟨?_⟩)|fail
 conv=>whnf
 refine .inl ⟨_,hrn,?_⟩
 rintro _ (rfl|⟨h0,_⟩)
 rotate_left
 · omega
 repeat' first|refine sW ⟨?_⟩|(refine sp ?_ ?_<;>refine λh=>⟨?_⟩)|fail
 conv=>whnf
 refine .inr ⟨[1],rfl,_,aFl gl (lim n) (aAz n) (by omega),?_⟩
 rintro _ _ ⟨rfl,hp2,rfl⟩
 repeat' first|refine sW ⟨?_⟩|(refine sp ?_ ?_<;>refine λh=>⟨?_⟩)|fail
 conv=>whnf
 refine .inr (.inl ?_)
 conv=>whnf
 refine .inr (.inl ?_)
 conv=>whnf
 have e:∀n,List.take (lim (aA1 (lim n))).length (aAb (lim n))=aAb (lim n):=λn=>by rw [aA4,aCf,List.take_length]
 exact ⟨_,_,rfl,.inl (by rw [e]),.inl (by rw [e])⟩
end Go.V
namespace Go.V
open Go.N Go.Proofs
open Go.RowKit
def roA (z:Nat):AV->AV
 | .fr _ sz es=>.ro sz es
 | .nils=>.ro z []
 |x=>x
def aX0:AV->Prop
 | .agg _=>False
 | .tup _=>False
 |_=>True
theorem bXr {S:Nat->Prop}{b z:Nat}{w:World}:∀(x:AV) (v:Value) (F:List (Nat×Nat)),aX0 x->aDw S b w x v F->aDw (λq=>S q\/q∈F.map (·.1)) b w (roA z x) v []
 | .fr e sz es,v,F,_,h=>by
   simp only [aDw,roA] at h ⊢
   obtain ⟨c,cap,rfl,rfl,hB,hrow⟩:=h
   exact ⟨trivial,bOp hrow (.inr (by simp)) λq hq=>.inl hq⟩
 | .nils,v,F,_,h=>by
   simp only [aDw,roA,aAi] at h ⊢
   obtain ⟨rfl,rfl⟩:=h
   refine ⟨trivial,none,0,?_⟩
   simp
 | .agg _,v,F,hs,h=>hs.elim
 | .tup _,v,F,hs,h=>hs.elim
 | .j,v,F,_,h| .u,v,F,_,h| .int _ _,v,F,_,h| .bool _,v,F,_,h| .str _,v,F,_,h| .ro _ _,v,F,_,h| .own _ _ _,v,F,_,h| .rp _,v,F,_,h| .bptr _ _,v,F,_,h| .ptr _ _ _,v,F,_,h
 | .fn _ _,v,F,_,h| .map _,v,F,_,h| .iface _ _,v,F,_,h| .nili,v,F,_,h=>by
   simp only [aDw,roA] at h ⊢
   exact ⟨trivial,aAi.later (aDm λq hq=>.inl hq) _ v h.2⟩
theorem bGf {S:Nat->Prop}{b z:Nat}{w:World}:∀(xs:List AV) (vs:List Value) (F:List (Nat×Nat)),(∀ x∈xs,aX0 x)->aC5 S b w xs vs F->aC5 (λq=>S q\/q∈F.map (·.1)) b w (xs.map (roA z)) vs []
 |[],vs,F,_,h=>by simp only [aC5,List.map_nil] at h ⊢;exact ⟨h.1,trivial⟩
 |x::xs,vs,F,hs,h=>by
  simp only [aC5,List.map_cons] at h ⊢
  obtain ⟨v,r,F1,F2,rfl,rfl,h1,h2⟩:=h
  have k1:=bXr (z:=z) x v F1 (hs x List.mem_cons_self) h1
  have k2:=bGf (z:=z) xs r F2 (λy hy=>hs y (List.mem_cons_of_mem _ hy)) h2
  refine ⟨v,r,[],[],rfl,rfl,aHw (aDm λq hq=>?_) _ _ _ k1 (by simp),aGf (aDm λq hq=>?_) _ _ _ k2 (by simp)⟩
  · rcases hq with hq|hq
    · exact .inl hq
    · exact .inr (by rw [List.map_append];exact List.mem_append_left _ hq)
  · rcases hq with hq|hq
    · exact .inl hq
    · exact .inr (by rw [List.map_append];exact List.mem_append_right _ hq)
theorem bGc {S:Nat->Prop}{b:Nat}{w:World}:∀(xs:List AV) (vs:List Value) (F:List (Nat×Nat)),(∀ x∈xs,aX0 x)->aC5 S b w xs vs F->∀q∈F,q.1<w.heap.size
 |[],vs,F,_,h=>by simp only [aC5] at h;rw [h.2];simp
 |x::xs,vs,F,hs,h=>by
  simp only [aC5] at h
  obtain ⟨v,r,F1,F2,rfl,rfl,h1,h2⟩:=h
  intro q hq
  rcases List.mem_append.1 hq with hq|hq
  · have hx:=hs x List.mem_cons_self
    cases x<;>simp only [aDw] at h1<;>first|(rw [h1.1] at hq;simp at hq;done)|exact hx.elim|skip
    obtain ⟨c,cap,rfl,rfl,hB,cur,vss,hh,_⟩:=h1
    simp at hq;subst hq
    exact (Array.getElem?_eq_some_iff.1 hh).1
  · exact bGc xs r F2 (λy hy=>hs y (List.mem_cons_of_mem _ hy)) h2 q hq
theorem aAc.ro {P:Program}{gl:Gl}{f:FuncId}{args:List AV}{R:List AV->Prop}(z:Nat) (h:aAc P gl f args (λx=>∃xs,x= .tup xs/\(∀ y∈xs,aX0 y)/\R (xs.map (roA z)))):
 aAc P gl f args (λx=>∃ys,x= .tup ys/\R ys):=by
 intro S w vs h1 h2 h3
 refine (h S w vs h1 h2 h3).mono λv w' hh=>?_
 obtain ⟨x,⟨xs,rfl,hsim,hR⟩,⟨S',F,hF,hnd,hFS,hS'⟩,hb⟩:=hh
 refine ⟨_,⟨_,rfl,hR⟩,?_,hb⟩
 have hge:=aXc _ _ _ hF
 simp only [aDw] at hF
 obtain ⟨us,rfl,hFL⟩:=hF
 refine ⟨λq=>S' q\/q∈F.map (·.1),[],?_,by simp,by simp,?_⟩
 · simp only [aDw]
   exact ⟨us,rfl,bGf xs us F hsim hFL⟩
 · rintro q (hq|hq)
   · exact hS' q hq
   · obtain ⟨y,hy,rfl⟩:=List.mem_map.1 hq
     exact ⟨bGc xs us F hsim hFL y hy,.inr (hge y hy)⟩
theorem LX.ro {x:AV}{n:Nat}(h:LX x n):roA 1 x= .ro 1 (aAb (lim n)):=by
 rcases h with rfl|rfl|⟨rfl,rfl⟩
 · rfl
 · rfl
 · rw [aCi];rfl
theorem LX.simple {x:AV}{n:Nat}(h:LX x n):aX0 x:=by
 rcases h with rfl|rfl|⟨rfl,rfl⟩<;>trivial
variable (gl:Gl)
theorem aJ4 (m n:Nat) (hm:(dec m).length<300000) (hn:(dec n).length<300000):aAc Tryz.prog gl 204 [.str (aAx m),.str (aAx n)] (λx=>x= .tup [.ro 1 (aAb (lim m)),.ro 1 (aAb (lim n)),.bool true]):=by
 have h:=aAc.ro (R:=λys=>ys=[.ro 1 (aAb (lim m)),.ro 1 (aAb (lim n)),.bool true]) 1 ((bVu gl m n hm hn).mono λx hx=>by
  obtain ⟨p,q,rfl,hp,hq⟩:=hx
  refine ⟨_,rfl,?_,?_⟩
  · intro y hy
    simp only [List.mem_cons,List.not_mem_nil,or_false] at hy
    rcases hy with rfl|rfl|rfl
    · exact hp.simple
    · exact hq.simple
    · trivial
  · simp only [List.map_cons,List.map_nil,hp.ro,hq.ro];rfl)
 exact h.mono λx ⟨ys,e,hy⟩=>by rw [e,hy]
theorem aZc (a b:Nat) (hb0:0<b) (ha:(lim a).length<400000) (hb:(lim b).length<400000):aAc Tryz.prog gl 205 [.ro 1 (aAb (lim a)),.ro 1 (aAb (lim b))]
 (λx=>x= .tup [.ro 1 (aAb (lim (a / b))),.ro 1 (aAb (lim (a % b)))]):=by
 have h:=aAc.ro (R:=λys=>ys=[.ro 1 (aAb (lim (a / b))),.ro 1 (aAb (lim (a % b)))]) 1 ((bRn gl a b hb0 ha hb).mono λx hx=>by
  obtain ⟨p,q,rfl,hp,hq⟩:=hx
  refine ⟨_,rfl,?_,?_⟩
  · intro y hy
    simp only [List.mem_cons,List.not_mem_nil,or_false] at hy
    rcases hy with rfl|rfl
    · exact hp.simple
    · exact hq.simple
  · simp only [List.map_cons,List.map_nil,hp.ro,hq.ro])
 exact h.mono λx ⟨ys,e,hy⟩=>by rw [e,hy]
def bYk:Tab:=[(9,i9),(4,i4),(231,cAc),(167,cRx),(3,i3)]
theorem bPr:TOK Tryz.prog bYk:=⟨K9,⟨K4,⟨cBe,⟨cRy,⟨K3,trivial⟩⟩⟩⟩⟩
def bYl:Tab:=[(9,i9),(4,i4),(231,cAc),(167,cRx),(3,i3)]
theorem bPs:TOK Tryz.prog bYl:=⟨K9,⟨K4,⟨cBe,⟨cRy,⟨K3,trivial⟩⟩⟩⟩⟩
set_option maxHeartbeats 4000000 in
theorem bTt (m n:Nat) (hn0:0<n) (hm:(dec m).length<300000) (hn:(dec n).length<300000):aAc Tryz.prog gl 165 [.str (aAx m),.str (aAx n)] (λx=>x= .tup [.str (aAx (m / n)),.str (aAx (m % n)),.int .i64 0]):=by
 refine vgo bPr Tryz.func165 ?_
 have hlm:=aBd m
 have hln:=aBd n
 have hqd:=aBw (Nat.div_le_self m n)
 have hrd:=aBw (Nat.le_of_lt (Nat.mod_lt m hn0))
 have hn1:=aBb n
 have hn2:(aAb (lim n)).length=(lim n).length:=limbs_length _
 repeat' first|refine sW ⟨?_⟩|(refine sp ?_ ?_<;>refine λh=>⟨?_⟩)|fail
 conv=>whnf
 refine .inl ⟨_,aJ4 gl m n hm hn,?_⟩
 rintro _ rfl
 repeat' first|refine sW ⟨?_⟩|(refine sp ?_ ?_<;>refine λh=>⟨?_⟩)|fail
 · exact absurd h (by omega)
 conv=>whnf
 refine .inl ⟨_,aZc gl m n hn0 (by omega) (by omega),?_⟩
 rintro _ rfl
 repeat' first|refine sW ⟨?_⟩|(refine sp ?_ ?_<;>refine λh=>⟨?_⟩)|fail
 conv=>whnf
 refine .inl ⟨_,aTx gl (m / n) (by omega),?_⟩
 rintro _ rfl
 repeat' first|refine sW ⟨?_⟩|(refine sp ?_ ?_<;>refine λh=>⟨?_⟩)|fail
 conv=>whnf
 refine .inl ⟨_,aTx gl (m % n) (by omega),?_⟩
 rintro _ rfl
 repeat' first|refine sW ⟨?_⟩|(refine sp ?_ ?_<;>refine λh=>⟨?_⟩)|fail
 conv=>whnf
 rfl
set_option maxHeartbeats 4000000 in
theorem bZd (m n:Nat) (hm:(dec m).length<300000) (hn:(dec n).length<300000):aAc Tryz.prog gl 164 [.str (aAx m),.str (aAx n)] (λx=>x= .tup [.str (aAx (Nat.gcd m n)),.int .i64 0]):=by
 refine vgo bPs Tryz.func164 ?_
 have hlm:=aBd m
 have hln:=aBd n
 repeat' first|refine sW ⟨?_⟩|(refine sp ?_ ?_<;>refine λh=>⟨?_⟩)|fail
 conv=>whnf
 refine .inl ⟨_,aJ4 gl m n hm hn,?_⟩
 rintro _ rfl
 repeat' first|refine sW ⟨?_⟩|(refine sp ?_ ?_<;>refine λh=>⟨?_⟩)|fail
 conv=>whnf
 refine ⟨[6,7],[],λk st=>∃a b:Nat,(dec a).length<300000/\(dec b).length<300000/\k=b/\Nat.gcd a b=Nat.gcd m n/\st=⟨[(6,.ro 1 (aAb (lim a))),(7,.ro 1 (aAb (lim b)))],[]⟩,rfl,⟨n,m,n,hm,hn,rfl,rfl,rfl⟩,?_⟩
 rintro k _ ⟨a,b,ha,hb,hk,hg,rfl⟩
 have hla:=aBd a
 have hlb:=aBd b
 have hb1:=aBb b
 have hb2:(aAb (lim b)).length=(lim b).length:=limbs_length _
 rcases Nat.eq_zero_or_pos b with hb0|hb0
 · repeat' first|refine sW ⟨?_⟩|(refine sp ?_ ?_<;>refine λh=>⟨?_⟩)|fail
   · exact absurd h (by omega)
   conv=>whnf
   have e:a=Nat.gcd m n:=by rw [<- hg,hb0,Nat.gcd_zero_right]
   refine .inl ⟨_,aTx gl a (by omega),?_⟩
   rintro _ rfl
   repeat' first|refine sW ⟨?_⟩|(refine sp ?_ ?_<;>refine λh=>⟨?_⟩)|fail
   conv=>whnf
   rw [<- e];rfl
 · repeat' first|refine sW ⟨?_⟩|(refine sp ?_ ?_<;>refine λh=>⟨?_⟩)|fail
   rotate_left
   · exact absurd h (by omega)
   conv=>whnf
   refine .inl ⟨_,aZc gl a b hb0 (by omega) (by omega),?_⟩
   rintro _ rfl
   repeat' first|refine sW ⟨?_⟩|(refine sp ?_ ?_<;>refine λh=>⟨?_⟩)|fail
   have hlt:=Nat.mod_lt a hb0
   refine ⟨[],a % b,rfl,by omega,b,a % b,hb,Nat.lt_of_le_of_lt (aBw (Nat.le_of_lt hlt)) hb,rfl,?_,rfl⟩
   rw [<- hg,Nat.gcd_comm a b,Nat.gcd_rec b a,Nat.gcd_comm]
end Go.V
namespace Go.V
open Go.N Go.Proofs
variable (gl:Gl)
def bHr:Tab:=[(27,i27),(3,i3)]
theorem aYb:TOK Tryz.prog bHr:=⟨K27,⟨K3,trivial⟩⟩
def bQe:Tab:=[(27,i27),(3,i3)]
theorem bGy:TOK Tryz.prog bQe:=⟨K27,⟨K3,trivial⟩⟩
def aYt:Tab:=[(27,i27),(3,i3)]
theorem aSr:TOK Tryz.prog aYt:=⟨K27,⟨K3,trivial⟩⟩
def aAh (l:List Int):List (List AV):=l.map λx=>[.int .i64 x]
@[simp] theorem rowZ_length (l:List Int):(aAh l).length=l.length:=by simp [aAh]
theorem aE6 {l:List Int}{k:Nat}(h:k<l.length):(aAh l)[k]? =some [.int .i64 l[k]]:=by simp [aAh,h]
theorem aOy {α:Type}{a b:List α}{i:Nat}(ha:i<a.length) (hb:i<b.length) (h:a.take i=b.take i) (he:a[i]=b[i]):a.take (i+1)=b.take (i+1):=by
 rw [List.take_succ_eq_append_getElem ha,List.take_succ_eq_append_getElem hb,h,he]
set_option maxHeartbeats 1000000 in
theorem aDh (a b:List Int) (hla:a.length<9000000000) (hlb:b.length<9000000000):aAc Tryz.prog gl 21 [.ro 1 (aAh a),.ro 1 (aAh b)] (λx=>x= .bool (decide (a=b))):=by
 refine vgo aYb Tryz.func21 ?_
 have ha:(aAh a).length=a.length:=rowZ_length a
 have hb:(aAh b).length=b.length:=rowZ_length b
 repeat' first|refine sW ⟨?_⟩|(refine sp ?_ ?_<;>refine λh=>⟨?_⟩)|fail
 · conv=>whnf
   refine congrArg AV.bool (Eq.symm (decide_eq_false λe=>?_))
   rw [e] at h;exact h rfl
 · have hlen:a.length=b.length:=by omega
   conv=>whnf
   refine ⟨[0,1,5],[],λm st=>∃i:Nat,i<=a.length/\m=a.length - i/\a.take i=b.take i/\st=⟨[(0,.ro 1 (aAh a)),(1,.ro 1 (aAh b)),(5,.int .i64 (i:Nat))],[]⟩,rfl,⟨a.length,0,by omega,rfl,rfl,rfl⟩,?_⟩
   rintro m _ ⟨i,hi,hm,ht,rfl⟩
   rcases Nat.lt_or_ge i a.length with hia|hge
   · have hib:i<b.length:=by omega
     have ga:=aE6 hia
     have gb:=aE6 hib
     repeat' first|refine sW ⟨?_⟩|(refine sp ?_ ?_<;>refine λh=>⟨?_⟩)|fail
     all_goals try omega
     refine ⟨by decide +kernel,[0,0,3,7,0,0,48,112,255],by decide +kernel,?_⟩
     repeat' first|refine sW ⟨?_⟩|(refine sp ?_ ?_<;>refine λh=>⟨?_⟩)|fail
     refine ⟨i,_,rfl,ga,?_⟩
     repeat' first|refine sW ⟨?_⟩|(refine sp ?_ ?_<;>refine λh=>⟨?_⟩)|fail
     refine ⟨i,_,rfl,gb,?_⟩
     repeat' first|refine sW ⟨?_⟩|(refine sp ?_ ?_<;>refine λh=>⟨?_⟩)|fail
     · conv=>whnf
       refine congrArg AV.bool (Eq.symm (decide_eq_false λe=>?_))
       subst e;exact h rfl
     · exact ⟨[],a.length - (i+1),rfl,by omega,i+1,by omega,rfl,aOy hia hib ht h,rfl⟩
   · repeat' first|refine sW ⟨?_⟩|(refine sp ?_ ?_<;>refine λh=>⟨?_⟩)|fail
     all_goals try omega
     conv=>whnf
     rw [List.take_of_length_le (by omega),List.take_of_length_le (by omega)] at ht
     exact congrArg AV.bool (Eq.symm (decide_eq_true ht))
set_option maxHeartbeats 1000000 in
theorem bRh (a b:List Int) (hla:a.length<9000000000) (hlb:b.length<9000000000):aAc Tryz.prog gl 92 [.ro 1 (aAh a),.ro 1 (aAh b)] (λx=>x= .bool (decide (a=b))):=by
 refine vgo bGy Tryz.func92 ?_
 have ha:(aAh a).length=a.length:=rowZ_length a
 have hb:(aAh b).length=b.length:=rowZ_length b
 repeat' first|refine sW ⟨?_⟩|(refine sp ?_ ?_<;>refine λh=>⟨?_⟩)|fail
 · conv=>whnf
   refine congrArg AV.bool (Eq.symm (decide_eq_false λe=>?_))
   rw [e] at h;exact h rfl
 · have hlen:a.length=b.length:=by omega
   conv=>whnf
   refine ⟨[0,1,12,13],[],λm st=>∃i:Nat,i<=a.length/\m=a.length - i/\a.take i=b.take i/\st=⟨[(0,.ro 1 (aAh a)),(1,.ro 1 (aAh b)),(12,.int .i64 ((aAh a).length:Nat)),(13,.int .i64 (i:Nat))],[]⟩,rfl,⟨a.length,0,by omega,rfl,rfl,rfl⟩,?_⟩
   rintro m _ ⟨i,hi,hm,ht,rfl⟩
   rcases Nat.lt_or_ge i a.length with hia|hge
   · have hib:i<b.length:=by omega
     have ga:=aE6 hia
     have gb:=aE6 hib
     repeat' first|refine sW ⟨?_⟩|(refine sp ?_ ?_<;>refine λh=>⟨?_⟩)|fail
     all_goals try omega
     refine ⟨by decide +kernel,[0,0,3,7,0,0,48,112,255],by decide +kernel,?_⟩
     repeat' first|refine sW ⟨?_⟩|(refine sp ?_ ?_<;>refine λh=>⟨?_⟩)|fail
     refine ⟨i,_,rfl,ga,?_⟩
     repeat' first|refine sW ⟨?_⟩|(refine sp ?_ ?_<;>refine λh=>⟨?_⟩)|fail
     refine ⟨i,_,rfl,gb,?_⟩
     repeat' first|refine sW ⟨?_⟩|(refine sp ?_ ?_<;>refine λh=>⟨?_⟩)|fail
     · conv=>whnf
       refine congrArg AV.bool (Eq.symm (decide_eq_false λe=>?_))
       subst e;exact h rfl
     · exact ⟨[],a.length - (i+1),rfl,by omega,i+1,by omega,rfl,aOy hia hib ht h,rfl⟩
   · repeat' first|refine sW ⟨?_⟩|(refine sp ?_ ?_<;>refine λh=>⟨?_⟩)|fail
     all_goals try omega
     conv=>whnf
     rw [List.take_of_length_le (by omega),List.take_of_length_le (by omega)] at ht
     exact congrArg AV.bool (Eq.symm (decide_eq_true ht))
theorem aC4 (a b:List Int) (hla:a.length<9000000000) (hlb:b.length<9000000000):aAc Tryz.prog gl 45 [.ro 1 (aAh a),.ro 1 (aAh b)] (λx=>x= .bool (decide (a=b))):=by
 refine vgo aSr Tryz.func45 ?_
 repeat' first|refine sW ⟨?_⟩|(refine sp ?_ ?_<;>refine λh=>⟨?_⟩)|fail
 conv=>whnf
 refine .inl ⟨_,bRh gl a b hla hlb,?_⟩
 rintro _ rfl
 repeat' first|refine sW ⟨?_⟩|(refine sp ?_ ?_<;>refine λh=>⟨?_⟩)|fail
 conv=>whnf
 rfl
end Go.V
namespace Go.V
open Go.N Go.Proofs
variable (gl:Gl)
def bCk:Tab:=[(27,i27),(3,i3)]
theorem aU8:TOK Tryz.prog bCk:=⟨K27,⟨K3,trivial⟩⟩
def bHs:Tab:=[(27,i27),(3,i3)]
theorem aYc:TOK Tryz.prog bHs:=⟨K27,⟨K3,trivial⟩⟩
def aVg:Tab:=[(27,i27),(3,i3)]
theorem aPg:TOK Tryz.prog aVg:=⟨K27,⟨K3,trivial⟩⟩
def aYu:Tab:=[(27,i27),(3,i3),(4,i4)]
theorem aSs:TOK Tryz.prog aYu:=⟨K27,⟨K3,⟨K4,trivial⟩⟩⟩
def aA8 (l:List Int):Int:=l.foldl (· * ·) 1
theorem bIy (l:List Int) (x:Int):aA8 (l++[x])=aA8 l*x:=by simp [aA8]
theorem aHu {l:List Int}{i:Nat}(h:i<l.length):aA8 (l.take (i+1))=aA8 (l.take i)*l[i]:=by
 rw [List.take_succ_eq_append_getElem h,bIy]
def aHn (d:Int):Bool:=decide (1<=d) && decide (d<=64)
def aAl (l:List Int):Bool:=decide (l.length<=4) && l.all aHn && decide (aA8 l<=64)
theorem aJi:∀(l:List Int) (r:Int),(∀ d∈l,1<=d)->1<=r->r<=l.foldl (· * ·) r
 |[],r,_,_=>Int.le_refl _
 |x::l,r,h,hr=>by
  have hx:=h x List.mem_cons_self
  have h1:r*1<=r*x:=Int.mul_le_mul_of_nonneg_left hx (by omega)
  rw [Int.mul_one] at h1
  exact Int.le_trans h1 (aJi l (r*x) (λd hd=>h d (List.mem_cons_of_mem _ hd)) (by omega))
theorem bF6 {l:List Int}(h:∀d∈l,1<=d) (i:Nat):aA8 (l.take i)<=aA8 l:=by
 have h1:1<=aA8 (l.take i):=aJi _ 1 (λd hd=>h d (List.mem_of_mem_take hd)) (Int.le_refl _)
 have h2:=aJi (l.drop i) (aA8 (l.take i)) (λd hd=>h d (List.mem_of_mem_drop hd)) h1
 have e:(l.drop i).foldl (· * ·) (aA8 (l.take i))=aA8 l:=by
  unfold aA8;rw [<- List.foldl_append,List.take_append_drop]
 rwa [e] at h2
theorem cCe {p d:Int}(h1:1<=p) (h2:p<=64) (h3:1<=d) (h4:d<=64):1<=p*d/\p*d<=4096:=by
 have a:=Int.mul_le_mul h2 h4 (by omega) (by omega)
 have b:=Int.mul_le_mul h1 h3 (by omega) (by omega)
 omega
theorem aIf {l:List Int}{i:Nat}(h:i<l.length) (hb:aHn l[i]=false):aAl l=false:=by
 have:l.all aHn=false:=by rw [List.all_eq_false];exact ⟨_,List.getElem_mem h,by simp [hb]⟩
 simp [aAl,this]
theorem aCs {l:List Int}(h:aAl l=true):∀d∈l,1<=d/\d<=64:=λd hd=>by
 simp only [aAl,Bool.and_eq_true,List.all_eq_true] at h
 have:=h.1.2 d hd
 simpa [aHn] using this
set_option maxHeartbeats 2000000 in
theorem aA2 (l:List Int) (hll:l.length<9000000000):aAc Tryz.prog gl 84 [.ro 1 (aAh l)] (λx=>x= .bool (aAl l)):=by
 refine vgo aU8 Tryz.func84 ?_
 have hl:(aAh l).length=l.length:=rowZ_length l
 repeat' first|refine sW ⟨?_⟩|(refine sp ?_ ?_<;>refine λh=>⟨?_⟩)|fail
 · conv=>whnf
   have:¬l.length<=4:=by omega
   exact congrArg AV.bool (by simp [aAl,this])
 · have h4:l.length<=4:=by omega
   conv=>whnf
   refine ⟨[0,3,4],[],λm st=>∃i:Nat,i<=l.length/\m=l.length - i/\(l.take i).all aHn=true/\1<=aA8 (l.take i)/\aA8 (l.take i)<=64/\
    st=⟨[(0,.ro 1 (aAh l)),(3,.int .i64 (aA8 (l.take i))),(4,.int .i64 (i:Nat))],[]⟩,rfl,⟨l.length,0,by omega,rfl,rfl,by simp [aA8],by simp [aA8],rfl⟩,?_⟩
   rintro m _ ⟨i,hi,hm,hd,hp1,hp2,rfl⟩
   rcases Nat.lt_or_ge i l.length with hil|hge
   · have g:=aE6 hil
     rcases Int.lt_or_le l[i] 1 with h1|h1
     · have hb:aHn l[i]=false:=by simp [aHn];omega
       repeat' first|refine sW ⟨?_⟩|(refine sp ?_ ?_<;>refine λh=>⟨?_⟩)|fail
       all_goals try omega
       refine ⟨i,_,rfl,g,?_⟩
       repeat' first|refine sW ⟨?_⟩|(refine sp ?_ ?_<;>refine λh=>⟨?_⟩)|fail
       all_goals try omega
       conv=>whnf
       rw [aIf hil hb];rfl
     rcases Int.lt_or_le 64 l[i] with h2|h2
     · have hb:aHn l[i]=false:=by simp [aHn];omega
       repeat' first|refine sW ⟨?_⟩|(refine sp ?_ ?_<;>refine λh=>⟨?_⟩)|fail
       all_goals try omega
       refine ⟨i,_,rfl,g,?_⟩
       repeat' first|refine sW ⟨?_⟩|(refine sp ?_ ?_<;>refine λh=>⟨?_⟩)|fail
       all_goals try omega
       refine ⟨i,_,rfl,g,?_⟩
       repeat' first|refine sW ⟨?_⟩|(refine sp ?_ ?_<;>refine λh=>⟨?_⟩)|fail
       all_goals try omega
       conv=>whnf
       rw [aIf hil hb];rfl
     obtain ⟨hm1,hm2⟩:=cCe hp1 hp2 h1 h2
     have hpt:=aHu hil
     repeat' first|refine sW ⟨?_⟩|(refine sp ?_ ?_<;>refine λh=>⟨?_⟩)|fail
     all_goals try omega
     refine ⟨i,_,rfl,g,?_⟩
     repeat' first|refine sW ⟨?_⟩|(refine sp ?_ ?_<;>refine λh=>⟨?_⟩)|fail
     all_goals try omega
     refine ⟨i,_,rfl,g,?_⟩
     repeat' first|refine sW ⟨?_⟩|(refine sp ?_ ?_<;>refine λh=>⟨?_⟩)|fail
     all_goals try omega
     refine ⟨i,_,rfl,g,?_⟩
     repeat' first|refine sW ⟨?_⟩|(refine sp ?_ ?_<;>refine λh=>⟨?_⟩)|fail
     all_goals try omega
     · conv=>whnf
       have e:aAl l=false:=by
        cases ha:l.all aHn
        · simp [aAl,ha]
        · have h5:=bF6 (l:=l) (λd hd=>by
           have:=List.all_eq_true.1 ha d hd
           simp only [aHn,Bool.and_eq_true,decide_eq_true_eq] at this
           exact this.1) (i+1)
          have h6:¬aA8 l<=64:=by omega
          simp [aAl,h6]
       rw [e];rfl
     · repeat' first|refine sW ⟨?_⟩|(refine sp ?_ ?_<;>refine λh=>⟨?_⟩)|fail
       refine ⟨i,_,rfl,g,?_⟩
       repeat' first|refine sW ⟨?_⟩|(refine sp ?_ ?_<;>refine λh=>⟨?_⟩)|fail
       have hdi:aHn l[i]=true:=by simp [aHn,h1,h2]
       exact ⟨[],l.length - (i+1),rfl,by omega,i+1,by omega,rfl,by rw [List.take_succ_eq_append_getElem hil,List.all_append,hd];simp [hdi],by omega,by omega,
        Eq.trans rfl (congrArg (λz=>(⟨[(0,.ro 1 (aAh l)),(3,.int .i64 z),(4,.int .i64 ((i+1:Nat):Int))],[]⟩:St)) hpt.symm)⟩
   · repeat' first|refine sW ⟨?_⟩|(refine sp ?_ ?_<;>refine λh=>⟨?_⟩)|fail
     all_goals try omega
     conv=>whnf
     rw [List.take_of_length_le (by omega)] at hd hp2
     exact congrArg AV.bool (by simp [aAl,h4,hd,hp2])
def cap (i:Nat):Int:=64 ^ i
theorem bR3 (i:Nat):cap (i+1)=cap i*64:=Int.pow_succ 64 i
theorem bIa (i:Nat):0<=cap i:=Int.pow_nonneg (by omega)
theorem bZs {i:Nat}(h:i<4):cap i*64<=16777216:=by
 have hi3:i=0\/i=1\/i=2\/i=3:=by omega
 rcases hi3 with rfl|rfl|rfl|rfl<;>decide
theorem cAk {p d c:Int}(h1:1<=p) (h2:p<=c) (h3:1<=d) (h4:d<=64) (hc:0<=c) (hb:c*64<=16777216):1<=p*d/\p*d<=c*64/\p*d<=16777216:=by
 have a:=Int.mul_le_mul h2 h4 (by omega) hc
 have b:=Int.mul_le_mul h1 h3 (by omega) (by omega)
 omega
set_option maxHeartbeats 2000000 in
theorem aCb (l:List Int) (hll:l.length<9000000000):aAc Tryz.prog gl 90 [.ro 1 (aAh l)] (λx=>x= .bool (aAl l)):=by
 refine vgo aPg Tryz.func90 ?_
 have hl:(aAh l).length=l.length:=rowZ_length l
 repeat' first|refine sW ⟨?_⟩|(refine sp ?_ ?_<;>refine λh=>⟨?_⟩)|fail
 refine ⟨[0,3,6,7,8],[],λm st=>∃i:Nat,i<=l.length/\(0<i->l.length<=4)/\m=l.length - i/\(l.take i).all aHn=true/\1<=aA8 (l.take i)/\aA8 (l.take i)<=cap i/\
  st=⟨[(0,.ro 1 (aAh l)),(3,.int .i64 (aA8 (l.take i))),(6,.ro 1 (aAh l)),(7,.int .i64 ((aAh l).length:Nat)),(8,.int .i64 (i:Nat))],[]⟩,rfl,⟨l.length,0,by omega,by omega,rfl,rfl,by simp [aA8],by simp [aA8,cap],rfl⟩,?_⟩
 rintro m _ ⟨i,hi,h4i,hm,hd,hp1,hp2,rfl⟩
 rcases Nat.lt_or_ge i l.length with hil|hge
 · have g:=aE6 hil
   rcases Nat.lt_or_ge 4 l.length with h5|h4
   · have hbad:aAl l=false:=by
      have:¬l.length<=4:=by omega
      simp [aAl,this]
     rw [hbad]
     repeat' first|refine sW ⟨?_⟩|(refine sp ?_ ?_<;>refine λh=>⟨?_⟩)|fail
     all_goals try omega
     refine ⟨i,_,rfl,g,?_⟩
     repeat' first|refine sW ⟨?_⟩|(refine sp ?_ ?_<;>refine λh=>⟨?_⟩)|fail
     all_goals try omega
     all_goals (conv=>whnf)
     all_goals rfl
   rcases Int.lt_or_le l[i] 1 with h1|h1
   · have hb:aHn l[i]=false:=by simp [aHn];omega
     rw [aIf hil hb]
     repeat' first|refine sW ⟨?_⟩|(refine sp ?_ ?_<;>refine λh=>⟨?_⟩)|fail
     all_goals try omega
     refine ⟨i,_,rfl,g,?_⟩
     repeat' first|refine sW ⟨?_⟩|(refine sp ?_ ?_<;>refine λh=>⟨?_⟩)|fail
     all_goals try omega
     conv=>whnf
     rfl
   rcases Int.lt_or_le 64 l[i] with h2|h2
   · have hb:aHn l[i]=false:=by simp [aHn];omega
     rw [aIf hil hb]
     repeat' first|refine sW ⟨?_⟩|(refine sp ?_ ?_<;>refine λh=>⟨?_⟩)|fail
     all_goals try omega
     refine ⟨i,_,rfl,g,?_⟩
     repeat' first|refine sW ⟨?_⟩|(refine sp ?_ ?_<;>refine λh=>⟨?_⟩)|fail
     all_goals try omega
     conv=>whnf
     rfl
   have hpt:=aHu hil
   obtain ⟨hp4,hp3,hp6⟩:=cAk hp1 hp2 h1 h2 (bIa i) (bZs (by omega))
   repeat' first|refine sW ⟨?_⟩|(refine sp ?_ ?_<;>refine λh=>⟨?_⟩)|fail
   all_goals try omega
   refine ⟨i,_,rfl,g,?_⟩
   repeat' first|refine sW ⟨?_⟩|(refine sp ?_ ?_<;>refine λh=>⟨?_⟩)|fail
   all_goals try omega
   have hdi:aHn l[i]=true:=by simp [aHn,h1,h2]
   exact ⟨[],l.length - (i+1),rfl,by omega,i+1,by omega,λ_=>h4,rfl,by rw [List.take_succ_eq_append_getElem hil,List.all_append,hd];simp [hdi],by omega,by rw [hpt,bR3];exact hp3,
    Eq.trans rfl (congrArg (λz=>(⟨[(0,.ro 1 (aAh l)),(3,.int .i64 z),(6,.ro 1 (aAh l)),(7,.int .i64 ((aAh l).length:Nat)),(8,.int .i64 ((i+1:Nat):Int))],[]⟩:St)) hpt.symm)⟩
 · repeat' first|refine sW ⟨?_⟩|(refine sp ?_ ?_<;>refine λh=>⟨?_⟩)|fail
   all_goals try omega
   conv=>whnf
   have h4:l.length<=4:=by
    rcases Nat.eq_zero_or_pos i with h|h
    · omega
    · exact h4i h
   rw [List.take_of_length_le (by omega)] at hd
   have ht:l.take i=l:=List.take_of_length_le (by omega)
   refine congrArg AV.bool ?_
   rw [ht]
   simp [aAl,h4,hd]
end Go.V
namespace Go.V
open Go.N Go.Proofs
variable (gl:Gl)
def cGk:Tab:=[(27,i27),(3,i3)]
theorem cF2:TOK Tryz.prog cGk:=⟨K27,⟨K3,trivial⟩⟩
def cFe:Tab:=[(27,i27),(3,i3),(159,cX5)]
theorem cE3:TOK Tryz.prog cFe:=⟨K27,⟨K3,⟨cYc,trivial⟩⟩⟩
def aYk:Tab:=[(32,i32),(9,i9),(3,i3)]
theorem aSm:TOK Tryz.prog aYk:=⟨K32,⟨K9,⟨K3,trivial⟩⟩⟩
def aPh:Tab:=[(32,i32),(9,i9),(92,i92),(3,i3)]
theorem aMs:TOK Tryz.prog aPh:=⟨K32,⟨K9,⟨K92,⟨K3,trivial⟩⟩⟩⟩
def bQb:Tab:=[(27,i27),(3,i3)]
theorem bGv:TOK Tryz.prog bQb:=⟨K27,⟨K3,trivial⟩⟩
theorem aD8 {l:List Int}(h:aAl l=true) (i:Nat):1<=aA8 (l.take i)/\aA8 (l.take i)<=64:=by
 have hd:=aCs h
 simp only [aAl,Bool.and_eq_true,decide_eq_true_eq] at h
 exact ⟨aJi _ 1 (λd hd'=>(hd d (List.mem_of_mem_take hd')).1) (Int.le_refl _),Int.le_trans (bF6 (λd hd'=>(hd d hd').1) i) h.2⟩
theorem aBg {l:List Int}(h:aAl l=true):l.length<=4:=by
 simp only [aAl,Bool.and_eq_true,decide_eq_true_eq] at h
 exact h.1.1
theorem aHm (l:List Int) (hok:aAl l=true):aAc Tryz.prog gl 85 [.ro 1 (aAh l)] (λx=>x= .int .i64 (aA8 l)):=by
 refine vgo aYc Tryz.func85 ?_
 have hl:(aAh l).length=l.length:=rowZ_length l
 have h4:=aBg hok
 repeat' first|refine sX ⟨?_⟩|(refine sp ?_ ?_<;>refine λh=>⟨?_⟩)|fail
 refine ⟨[0,3,4],[],λm st=>∃i:Nat,i<=l.length/\m=l.length - i/\
  st=⟨[(0,.ro 1 (aAh l)),(3,.int .i64 (aA8 (l.take i))),(4,.int .i64 (i:Nat))],[]⟩,rfl,⟨l.length,0,by omega,rfl,rfl⟩,?_⟩
 rintro m _ ⟨i,hi,hm,rfl⟩
 rcases Nat.lt_or_ge i l.length with hil|hge
 · have g:=aE6 hil
   have hpt:=aHu hil
   obtain ⟨h1,h2⟩:=aD8 hok (i+1)
   rw [hpt] at h1 h2
   repeat' first|refine sX ⟨?_⟩|(refine sp ?_ ?_<;>refine λh=>⟨?_⟩)|fail
   all_goals try omega
   exact ⟨[],l.length - (i+1),rfl,by omega,i+1,by omega,rfl,
    Eq.trans rfl (congrArg (λz=>(⟨[(0,.ro 1 (aAh l)),(3,.int .i64 z),(4,.int .i64 ((i+1:Nat):Int))],[]⟩:St)) hpt.symm)⟩
 · repeat' first|refine sX ⟨?_⟩|(refine sp ?_ ?_<;>refine λh=>⟨?_⟩)|fail
   all_goals try omega
   conv=>whnf
   exact congrArg (AV.int .i64) (by rw [List.take_of_length_le (by omega)])
def aDj (l:List Int):Int:=if aAl l=true then aA8 l else 0
theorem aE8 (l:List Int) (hll:l.length<9000000000):aAc Tryz.prog gl 76 [.ro 1 (aAh l)] (λx=>x= .int .i64 (aDj l)):=by
 refine vgo aSs Tryz.func76 ?_
 have hl:(aAh l).length=l.length:=rowZ_length l
 have hc:=aCb gl l hll
 cases hok:aAl l
 · rw [hok] at hc
   have e:aDj l=0:=by simp [aDj,hok]
   repeat' first|refine sX ⟨?_⟩|(refine sp ?_ ?_<;>refine λh=>⟨?_⟩)|fail
   conv=>whnf
   refine .inl ⟨_,hc,?_⟩
   rintro _ rfl
   repeat' first|refine sX ⟨?_⟩|(refine sp ?_ ?_<;>refine λh=>⟨?_⟩)|fail
   conv=>whnf
   exact congrArg (AV.int .i64) e.symm
 rw [hok] at hc
 have e:aDj l=aA8 l:=by simp [aDj,hok]
 have h4:=aBg hok
 repeat' first|refine sX ⟨?_⟩|(refine sp ?_ ?_<;>refine λh=>⟨?_⟩)|fail
 conv=>whnf
 refine .inl ⟨_,hc,?_⟩
 rintro _ rfl
 repeat' first|refine sX ⟨?_⟩|(refine sp ?_ ?_<;>refine λh=>⟨?_⟩)|fail
 refine ⟨[3,9,10,11],[],λm st=>∃i:Nat,i<=l.length/\m=l.length - i/\
  st=⟨[(3,.int .i64 (aA8 (l.take i))),(9,.ro 1 (aAh l)),(10,.int .i64 ((aAh l).length:Nat)),(11,.int .i64 (i:Nat))],[]⟩,rfl,⟨l.length,0,by omega,rfl,rfl⟩,?_⟩
 rintro m _ ⟨i,hi,hm,rfl⟩
 rcases Nat.lt_or_ge i l.length with hil|hge
 · have g:=aE6 hil
   have hpt:=aHu hil
   obtain ⟨h1,h2⟩:=aD8 hok (i+1)
   rw [hpt] at h1 h2
   repeat' first|refine sX ⟨?_⟩|(refine sp ?_ ?_<;>refine λh=>⟨?_⟩)|fail
   all_goals try omega
   exact ⟨[],l.length - (i+1),rfl,by omega,i+1,by omega,rfl,
    Eq.trans rfl (congrArg (λz=>(⟨[(3,.int .i64 z),(9,.ro 1 (aAh l)),(10,.int .i64 ((aAh l).length:Nat)),(11,.int .i64 ((i+1:Nat):Int))],[]⟩:St)) hpt.symm)⟩
 · repeat' first|refine sX ⟨?_⟩|(refine sp ?_ ?_<;>refine λh=>⟨?_⟩)|fail
   all_goals try omega
   conv=>whnf
   exact congrArg (AV.int .i64) (by rw [e,List.take_of_length_le (by omega)])
def aCm (l:List ByteArray):List (List AV):=l.map λx=>[.str x]
@[simp] theorem rowS_length (l:List ByteArray):(aCm l).length=l.length:=by simp [aCm]
theorem aCd {l:List ByteArray}{k:Nat}(h:k<l.length):(aCm l)[k]? =some [.str l[k]]:=by simp [aCm,h]
theorem bCv {α:Type}{l:List α}{p:α->Bool}{i:Nat}(h:i<l.length) (hp:p l[i]=true):l.any p=true:=List.any_eq_true.2 ⟨_,List.getElem_mem h,hp⟩
theorem aVj {α:Type}{l:List α}{p:α->Bool}{i:Nat}(h:i<l.length) (ha:(l.take i).any p=false) (hp:p l[i]=false):(l.take (i+1)).any p=false:=by
 rw [List.take_succ_eq_append_getElem h,List.any_append,ha];simp [hp]
theorem cGl (f:FuncId) (cs:List AV) (l:List Int) (p:Int->Bool) (hll:l.length<9000000000) (hc:∀x∈l,aAc Tryz.prog gl f [.int .i64 x,.rp cs] (λy=>y= .bool (p x))):
 aAc Tryz.prog gl 125 [.ro 1 (aAh l),.fn f [.rp cs]] (λx=>∃k:Int,x= .int .i64 k/\(0<=k↔l.any p=true)):=by
 refine vgo cF2 Tryz.func125 ?_
 have hl:(aAh l).length=l.length:=rowZ_length l
 repeat' first|refine sX ⟨?_⟩|(refine sp ?_ ?_<;>refine λh=>⟨?_⟩)|fail
 refine ⟨[0,1,7,8],[],λm st=>∃i:Nat,i<=l.length/\m=l.length - i/\(l.take i).any p=false/\
  st=⟨[(0,.ro 1 (aAh l)),(1,.fn f [.rp cs]),(7,.int .i64 ((aAh l).length:Nat)),(8,.int .i64 (i:Nat))],[]⟩,rfl,⟨l.length,0,by omega,rfl,by simp,rfl⟩,?_⟩
 rintro m _ ⟨i,hi,hm,ha,rfl⟩
 rcases Nat.lt_or_ge i l.length with hil|hge
 · have g:=aE6 hil
   have hci:=hc l[i] (List.getElem_mem hil)
   cases hp:p l[i]
   · rw [hp] at hci
     repeat' first|refine sX ⟨?_⟩|(refine sp ?_ ?_<;>refine λh=>⟨?_⟩)|fail
     all_goals try omega
     conv=>whnf
     refine .inl ⟨_,hci,?_⟩
     rintro _ rfl
     repeat' first|refine sX ⟨?_⟩|(refine sp ?_ ?_<;>refine λh=>⟨?_⟩)|fail
     exact ⟨[],l.length - (i+1),rfl,by omega,i+1,by omega,rfl,aVj hil ha hp,rfl⟩
   · rw [hp] at hci
     repeat' first|refine sX ⟨?_⟩|(refine sp ?_ ?_<;>refine λh=>⟨?_⟩)|fail
     all_goals try omega
     conv=>whnf
     refine .inl ⟨_,hci,?_⟩
     rintro _ rfl
     repeat' first|refine sX ⟨?_⟩|(refine sp ?_ ?_<;>refine λh=>⟨?_⟩)|fail
     conv=>whnf
     refine ⟨i,rfl,?_⟩
     rw [bCv hil hp]
     simp
 · repeat' first|refine sX ⟨?_⟩|(refine sp ?_ ?_<;>refine λh=>⟨?_⟩)|fail
   all_goals try omega
   conv=>whnf
   rw [List.take_of_length_le (by omega)] at ha
   exact ⟨-1,rfl,by rw [ha];simp⟩
theorem cFf (f:FuncId) (cs:List AV) (l:List Int) (p:Int->Bool) (hll:l.length<9000000000) (hc:∀x∈l,aAc Tryz.prog gl f [.int .i64 x,.rp cs] (λy=>y= .bool (p x))):
 aAc Tryz.prog gl 119 [.ro 1 (aAh l),.fn f [.rp cs]] (λx=>x= .bool (l.any p)):=by
 refine vgo cE3 Tryz.func119 ?_
 repeat' first|refine sX ⟨?_⟩|(refine sp ?_ ?_<;>refine λh=>⟨?_⟩)|fail
 conv=>whnf
 refine .inl ⟨_,cGl gl f cs l p hll hc,?_⟩
 rintro _ ⟨k,rfl,hk⟩
 have e:l.any p=decide (0<=k):=by rw [Bool.eq_iff_iff,decide_eq_true_eq,hk]
 repeat' first|refine sX ⟨?_⟩|(refine sp ?_ ?_<;>refine λh=>⟨?_⟩)|fail
 conv=>whnf
 exact congrArg AV.bool e.symm
theorem aY2 (f:FuncId) (l:List ByteArray) (p:ByteArray->Bool) (hll:l.length<9000000000) (hc:∀x∈l,aAc Tryz.prog gl f [.str x] (λy=>y= .bool (p x))):
 aAc Tryz.prog gl 154 [.ro 1 (aCm l),.fn f []] (λx=>∃k:Int,x= .int .i64 k/\(0<=k↔l.any p=true)):=by
 refine vgo aSm Tryz.func154 ?_
 have hl:(aCm l).length=l.length:=rowS_length l
 repeat' first|refine sX ⟨?_⟩|(refine sp ?_ ?_<;>refine λh=>⟨?_⟩)|fail
 refine ⟨[0,1,7,8],[],λm st=>∃i:Nat,i<=l.length/\m=l.length - i/\(l.take i).any p=false/\
  st=⟨[(0,.ro 1 (aCm l)),(1,.fn f []),(7,.int .i64 ((aCm l).length:Nat)),(8,.int .i64 (i:Nat))],[]⟩,rfl,⟨l.length,0,by omega,rfl,by simp,rfl⟩,?_⟩
 rintro m _ ⟨i,hi,hm,ha,rfl⟩
 rcases Nat.lt_or_ge i l.length with hil|hge
 · have g:=aCd hil
   have hci:=hc l[i] (List.getElem_mem hil)
   cases hp:p l[i]
   · rw [hp] at hci
     repeat' first|refine sX ⟨?_⟩|(refine sp ?_ ?_<;>refine λh=>⟨?_⟩)|fail
     all_goals try omega
     conv=>whnf
     refine .inl ⟨_,hci,?_⟩
     rintro _ rfl
     repeat' first|refine sX ⟨?_⟩|(refine sp ?_ ?_<;>refine λh=>⟨?_⟩)|fail
     exact ⟨[],l.length - (i+1),rfl,by omega,i+1,by omega,rfl,aVj hil ha hp,rfl⟩
   · rw [hp] at hci
     repeat' first|refine sX ⟨?_⟩|(refine sp ?_ ?_<;>refine λh=>⟨?_⟩)|fail
     all_goals try omega
     conv=>whnf
     refine .inl ⟨_,hci,?_⟩
     rintro _ rfl
     repeat' first|refine sX ⟨?_⟩|(refine sp ?_ ?_<;>refine λh=>⟨?_⟩)|fail
     conv=>whnf
     refine ⟨i,rfl,?_⟩
     rw [bCv hil hp]
     simp
 · repeat' first|refine sX ⟨?_⟩|(refine sp ?_ ?_<;>refine λh=>⟨?_⟩)|fail
   all_goals try omega
   conv=>whnf
   rw [List.take_of_length_le (by omega)] at ha
   exact ⟨-1,rfl,by rw [ha];simp⟩
theorem aIy (f:FuncId) (l:List ByteArray) (p:ByteArray->Bool) (hll:l.length<9000000000) (hc:∀x∈l,aAc Tryz.prog gl f [.str x] (λy=>y= .bool (p x))):
 aAc Tryz.prog gl 109 [.ro 1 (aCm l),.fn f []] (λx=>x= .bool (l.any p)):=by
 refine vgo aMs Tryz.func109 ?_
 repeat' first|refine sX ⟨?_⟩|(refine sp ?_ ?_<;>refine λh=>⟨?_⟩)|fail
 conv=>whnf
 refine .inl ⟨_,aY2 gl f l p hll hc,?_⟩
 rintro _ ⟨k,rfl,hk⟩
 have e:l.any p=decide (0<=k):=by rw [Bool.eq_iff_iff,decide_eq_true_eq,hk]
 repeat' first|refine sX ⟨?_⟩|(refine sp ?_ ?_<;>refine λh=>⟨?_⟩)|fail
 conv=>whnf
 exact congrArg AV.bool e.symm
theorem aVn (l:List Int) (hll:l.length<1000000):aAc Tryz.prog gl 91 [.ro 1 (aAh l)] (λx=>x= .fr 3 1 (aAh l)\/(l=[]/\x= .nils)):=by
 refine vgo bGv Tryz.func91 ?_
 have hlen:(aAh l).length=l.length:=rowZ_length l
 rcases l with _|⟨x,l⟩
 · repeat' first|refine sX ⟨?_⟩|(refine sp ?_ ?_<;>refine λh=>⟨?_⟩)|fail
   conv=>whnf
   refine ⟨?_,?_⟩
   · repeat' first|refine sX ⟨?_⟩|(refine sp ?_ ?_<;>refine λh=>⟨?_⟩)|fail
     conv=>whnf
     exact .inr ⟨rfl,rfl⟩
   · repeat' first|refine sX ⟨?_⟩|(refine sp ?_ ?_<;>refine λh=>⟨?_⟩)|fail
     conv=>whnf
     refine ⟨Nat.le_refl _,Nat.le_of_ble_eq_true rfl,aAh [],rfl,?_⟩
     repeat' first|refine sX ⟨?_⟩|(refine sp ?_ ?_<;>refine λh=>⟨?_⟩)|fail
     conv=>whnf
     exact .inl rfl
 · repeat' first|refine sX ⟨?_⟩|(refine sp ?_ ?_<;>refine λh=>⟨?_⟩)|fail
   conv=>whnf
   refine ⟨Nat.le_refl _,(show (0+(aAh (x::l)).length)*8<=_ by omega),aAh (x::l),rfl,?_⟩
   repeat' first|refine sX ⟨?_⟩|(refine sp ?_ ?_<;>refine λh=>⟨?_⟩)|fail
   conv=>whnf
   exact .inl rfl
end Go.V
namespace Go.V
open Go.N Go.Proofs
set_option maxRecDepth 20000
variable (gl:Gl)
def bQn:Tab:=[(243,cX6),(4,i4)]
theorem bG6:TOK Tryz.prog bQn:=⟨cYd,⟨K4,trivial⟩⟩
def aYm:Tab:=[(243,cX6),(9,i9),(3,i3),(5,i5),(4,i4)]
theorem bBs:TOK Tryz.prog aYm:=⟨cYd,⟨K9,⟨K3,⟨K5,⟨K4,trivial⟩⟩⟩⟩⟩
def inS (s:List UInt8) (c:UInt8):Bool:=s.any λd=>d.toNat == c.toNat
def aN3 (s:List UInt8):List AV:=(List.range 256).map λb=>.bool (s.any λd=>d.toNat == b)
theorem aLd (s:List UInt8):(aN3 s).length=256:=by simp [aN3]
theorem bOr (s:List UInt8){j:Nat}(h:j<256):(aN3 s).drop j= .bool (s.any λd=>d.toNat == j)::(aN3 s).drop (j+1):=by
 rw [List.drop_eq_getElem_cons (by rw [aLd];exact h)]
 simp [aN3]
theorem bE0 (s:List UInt8) (c:UInt8):aAc Tryz.prog gl 253 [.rp (aN3 s),.int .u8 (c.toNat:Nat)] (λx=>x= .bool (inS s c)):=by
 refine vgo bG6 Tryz.func253 ?_
 have hc:c.toNat<256:=c.toNat_lt
 have hd:=bOr s hc
 repeat' first|refine sX ⟨?_⟩|((conv=>whnf);split<;>(first|(rename_i u h;clear u)|rename_i h)<;>(try rewrite [h])<;>(first|replace h:=dt h|replace h:=df h|replace h:=Nt h|replace h:=Nf h|skip))|fail
 all_goals (replace h:=(show List.drop (c.toNat*1) (aN3 s)=_ from h);rw [Nat.mul_one,hd] at h)
 all_goals first|(cases h;done)|skip
 all_goals (injection h with h1 h2)
 all_goals first|(cases h1;done)|skip
 injection h1 with h1
 subst h1
 repeat' first|refine sX ⟨?_⟩|(refine sp ?_ ?_<;>refine λh=>⟨?_⟩)|fail
 conv=>whnf
 exact rfl
theorem bOd (s:List UInt8) (c:UInt8):aSi (aN3 s) c.toNat [.bool true]=aN3 (s++[c]):=by
 have key:∀(n:Nat) (m:Nat) (f:Nat->AV) (k:Nat),k<n->aSi ((List.range' m n).map f) k [.bool true]=(List.range' m n).map λb=>if b=m+k then .bool true else f b:=by
  intro n
  induction n with
  |zero=>intro m f k h;omega
  |succ n ih=>
   intro m f k h
   rw [List.range'_succ,List.map_cons,List.map_cons]
   rcases k with _|k
   · simp only [aSi,Nat.add_zero,if_true]
     refine congrArg (List.cons _) ?_
     have:∀x∈List.range' (m+1) n,f x=if x=m then .bool true else f x:=λx hx=>by
      have:=(List.mem_range'_1.1 hx).1
      rw [if_neg (by omega)]
     exact List.map_congr_left this
   · simp only [aSi]
     rw [ih (m+1) f k (by omega),if_neg (by omega)]
     congr 1
     refine List.map_congr_left λx _=>?_
     rw [show m+1+k=m+(k+1) by omega]
 unfold aN3
 rw [List.range_eq_range',key 256 0 _ _ c.toNat_lt]
 refine List.map_congr_left λb _=>?_
 rw [List.any_append]
 by_cases h:b=c.toNat
 · subst h;simp
 · rw [if_neg (by omega)]
   have:(c.toNat == b)=false:=by simp;omega
   simp [this]
theorem bOc {l:List AV}{n:Nat}(h:l.length=n):(aSi l 0 (l.take n)).take n=l:=by
 have:∀l:List AV,aSi l 0 l=l:=λl=>by
  induction l with
  |nil=>rfl
  |cons x l ih=>simp [aSi,ih]
 rw [List.take_of_length_le (i:=n) (l:=l) (by omega),this,List.take_of_length_le (by omega)]
theorem bAq (ps:List Nat):∀l:List Bool,bBd ps (l.map AV.bool)=l.map AV.bool
 |[]=>by simp [bBd]
 |b::l=>by simp [bBd,ren,bAq ps l]
theorem bOi (ps:List Nat) (s:List UInt8):bBd ps (aN3 s)=aN3 s:=by
 have:aN3 s=((List.range 256).map λb=>s.any λd=>d.toNat == b).map AV.bool:=by rw [List.map_map];rfl
 rw [this,bAq]
theorem cBc:TI.zero (Tab.ti aYm 243)=aN3 []:=by rfl
set_option maxHeartbeats 4000000 in
theorem bL8 (s:ByteArray) (hs:s.size<100000) (h128:s.toList.all (λc=>decide (c.toNat<128))=true):aAc Tryz.prog gl 215 [.str s] (λx=>x= .tup [.agg (aN3 s.toList),.bool true]):=by
 refine vgo bBs Tryz.func215 ?_
 have hl:=Go.N.len_toList s
 repeat' first|refine sX ⟨?_⟩|(refine sp ?_ ?_<;>refine λh=>⟨?_⟩)|fail
 refine ⟨[0,2,4],[0],λm st=>∃k:Nat,k<=s.size/\m=s.size - k/\st=⟨[(0,.str s),(2,.bptr 0 0),(4,.int .i64 (k:Nat))],[.box 243 (aN3 (s.toList.take k))]⟩,rfl,⟨s.size,0,by omega,rfl,?_⟩,?_⟩
 · exact Eq.trans rfl (congrArg (λz:List AV=>(⟨[(0,.str s),(2,.bptr 0 0),(4,.int .i64 ((0:Nat):Int))],[.box 243 z]⟩:St)) cBc)
 rintro m _ ⟨k,hk,hm,rfl⟩
 rcases Nat.lt_or_ge k s.size with hlt|hge
 · have hk2:k<s.toList.length:=by omega
   have hb:s.toList[k].toNat<128:=by
    have:=List.all_eq_true.1 h128 _ (List.getElem_mem hk2)
    simpa using this
   have e:bBd [0] (aSi (aN3 (s.toList.take k)) (0+s.toList[k].toNat*1) [.bool true])=aN3 (s.toList.take (k+1)):=by
    rw [Nat.mul_one,Nat.zero_add,bOd,List.take_succ_eq_append_getElem hk2,bOi]
   repeat' first|refine sX ⟨?_⟩|(refine sp ?_ ?_<;>refine λh=>⟨?_⟩)|fail
   all_goals try omega
   · exact ⟨[0],s.size - (k+1),rfl,by omega,k+1,by omega,rfl,Eq.trans rfl (congrArg (λz:List AV=>(⟨[(0,.str s),(2,.bptr 0 0),(4,.int .i64 ((k+1:Nat):Int))],[.box 243 z]⟩:St)) e)⟩
   · exfalso
     have:(true && Nat.ble (0+s.toList[k].toNat*1+1) (aN3 (s.toList.take k)).length)=false:=h
     rw [aLd] at this
     have hb2:Nat.ble (0+s.toList[k].toNat*1+1) 256=true:=Nat.ble_eq_true_of_le (by omega)
     rw [hb2] at this;cases this
 · rw [List.take_of_length_le (by omega)]
   repeat' first|refine sX ⟨?_⟩|(refine sp ?_ ?_<;>refine λh=>⟨?_⟩)|fail
   all_goals try omega
   conv=>whnf
   have e:(aSi (aN3 s.toList) 0 ((aN3 s.toList).take 256)).take 256=aN3 s.toList:=bOc (aLd _)
   exact congrArg (λz:List AV=>AV.tup [.agg z,.bool true]) e
end Go.V
namespace Go.V
open Go.N Go.Proofs
set_option maxRecDepth 20000
variable (gl:Gl)
def bQ5:Tab:=[(9,i9),(3,i3),(247,cX7),(5,i5),(4,i4)]
theorem bHh:TOK Tryz.prog bQ5:=⟨K9,⟨K3,⟨cYe,⟨K5,⟨K4,trivial⟩⟩⟩⟩⟩
def bQ6:Tab:=[(9,i9),(3,i3),(247,cX7),(5,i5),(4,i4)]
theorem bHi:TOK Tryz.prog bQ6:=⟨K9,⟨K3,⟨cYe,⟨K5,⟨K4,trivial⟩⟩⟩⟩⟩
def bVi:Tab:=[(9,i9),(3,i3),(5,i5),(243,cX6),(247,cX7)]
theorem bKj:TOK Tryz.prog bVi:=⟨K9,⟨K3,⟨K5,⟨cYd,⟨cYe,trivial⟩⟩⟩⟩⟩
def bK0:Tab:=[(9,i9),(3,i3),(5,i5)]
theorem bBq:TOK Tryz.prog bK0:=⟨K9,⟨K3,⟨K5,trivial⟩⟩⟩
def bHv:Tab:=[(9,i9),(3,i3),(5,i5),(4,i4)]
theorem aYf:TOK Tryz.prog bHv:=⟨K9,⟨K3,⟨K5,⟨K4,trivial⟩⟩⟩⟩
theorem bRz (s:ByteArray) (l:List UInt8) (hs:s.size<1000000):aAc Tryz.prog gl 216 [.str s,.rp (aN3 l)] (λx=>∃r,x= .str r/\r.toList=s.toList.dropWhile (inS l)):=by
 refine vgo bHh Tryz.func216 ?_
 repeat' first|refine sX ⟨?_⟩|(refine sp ?_ ?_<;>refine λh=>⟨?_⟩)|fail
 refine ⟨[0,1],[],λm st=>∃r:ByteArray,m=r.size/\r.size<=s.size/\r.toList.dropWhile (inS l)=s.toList.dropWhile (inS l)/\st=⟨[(0,.str r),(1,.rp (aN3 l))],[]⟩,rfl,⟨s.size,s,rfl,by omega,rfl,rfl⟩,?_⟩
 rintro m _ ⟨r,hm,hrs,hr,rfl⟩
 have hl:=Go.N.len_toList r
 rcases Nat.eq_zero_or_pos r.size with h0|h0
 · have e0:r.toList=[]:=List.length_eq_zero_iff.1 (by omega)
   repeat' first|refine sX ⟨?_⟩|(refine sp ?_ ?_<;>refine λh=>⟨?_⟩)|fail
   all_goals try omega
   conv=>whnf
   exact ⟨r,rfl,by rw [<- hr,e0];rfl⟩
 · have h1:0<r.toList.length:=by omega
   obtain ⟨c,t,e⟩:=List.exists_cons_of_length_pos h1
   have hg:r.toList[0]=c:=by simp [e]
   have hc:=bE0 gl l r.toList[0]
   cases hp:inS l r.toList[0]
   · rw [hp] at hc
     repeat' first|refine sX ⟨?_⟩|(refine sp ?_ ?_<;>refine λh=>⟨?_⟩)|fail
     all_goals try omega
     conv=>whnf
     refine .inl ⟨_,hc,?_⟩
     rintro _ rfl
     repeat' first|refine sX ⟨?_⟩|(refine sp ?_ ?_<;>refine λh=>⟨?_⟩)|fail
     conv=>whnf
     refine ⟨r,rfl,?_⟩
     rw [hg] at hp
     rw [<- hr,e,List.dropWhile_cons,if_neg (by simp [hp])]
   · rw [hp] at hc
     repeat' first|refine sX ⟨?_⟩|(refine sp ?_ ?_<;>refine λh=>⟨?_⟩)|fail
     all_goals try omega
     conv=>whnf
     refine .inl ⟨_,hc,?_⟩
     rintro _ rfl
     repeat' first|refine sX ⟨?_⟩|(refine sp ?_ ?_<;>refine λh=>⟨?_⟩)|fail
     have e2:(r.extract (1:Int).toNat ((r.size:Nat):Int).toNat).toList=t:=by
      rw [aB3,e]
      simp
      rw [List.take_of_length_le]
      have:=congrArg List.length e
      simp at this;omega
     refine ⟨[],_,rfl,?_,_,rfl,?_,?_,rfl⟩
     · rw [<- Go.N.len_toList,e2]
       have:=congrArg List.length e
       simp at this;omega
     · rw [<- Go.N.len_toList,e2]
       have:=congrArg List.length e
       simp at this;omega
     · rw [e2,<-hr,e,List.dropWhile_cons,if_pos (by rw [<- hg];exact hp)]
theorem bR0 (s:ByteArray) (l:List UInt8) (hs:s.size<1000000):aAc Tryz.prog gl 217 [.str s,.rp (aN3 l)] (λx=>∃r,x= .str r/\r.toList=(s.toList.reverse.dropWhile (inS l)).reverse):=by
 refine vgo bHi Tryz.func217 ?_
 repeat' first|refine sX ⟨?_⟩|(refine sp ?_ ?_<;>refine λh=>⟨?_⟩)|fail
 refine ⟨[0,1],[],λm st=>∃r:ByteArray,m=r.size/\r.size<=s.size/\r.toList.reverse.dropWhile (inS l)=s.toList.reverse.dropWhile (inS l)/\st=⟨[(0,.str r),(1,.rp (aN3 l))],[]⟩,rfl,⟨s.size,s,rfl,by omega,rfl,rfl⟩,?_⟩
 rintro m _ ⟨r,hm,hrs,hr,rfl⟩
 have hl:=Go.N.len_toList r
 rcases Nat.eq_zero_or_pos r.size with h0|h0
 · have e0:r.toList=[]:=List.length_eq_zero_iff.1 (by omega)
   repeat' first|refine sX ⟨?_⟩|(refine sp ?_ ?_<;>refine λh=>⟨?_⟩)|fail
   all_goals try omega
   conv=>whnf
   exact ⟨r,rfl,by rw [<- hr,e0];rfl⟩
 · have h1:((r.size:Int) - 1).toNat<r.toList.length:=by omega
   have h2:r.toList≠[]:=λh=>by rw [h] at h1;simp at h1
   have e:=List.dropLast_concat_getLast h2
   have hg:r.toList[((r.size:Int) - 1).toNat]=r.toList.getLast h2:=by
    rw [List.getLast_eq_getElem];congr 1;omega
   have hc:=bE0 gl l r.toList[((r.size:Int) - 1).toNat]
   have er:r.toList.reverse=r.toList.getLast h2::r.toList.dropLast.reverse:=by
    conv=>lhs;rw [<- e]
    simp
   cases hp:inS l r.toList[((r.size:Int) - 1).toNat]
   · rw [hp] at hc
     repeat' first|refine sX ⟨?_⟩|(refine sp ?_ ?_<;>refine λh=>⟨?_⟩)|fail
     all_goals try omega
     conv=>whnf
     refine .inl ⟨_,hc,?_⟩
     rintro _ rfl
     repeat' first|refine sX ⟨?_⟩|(refine sp ?_ ?_<;>refine λh=>⟨?_⟩)|fail
     conv=>whnf
     refine ⟨r,rfl,?_⟩
     rw [hg] at hp
     rw [<- hr,er,List.dropWhile_cons,if_neg (by simp [hp]),<-er,List.reverse_reverse]
   · rw [hp] at hc
     repeat' first|refine sX ⟨?_⟩|(refine sp ?_ ?_<;>refine λh=>⟨?_⟩)|fail
     all_goals try omega
     conv=>whnf
     refine .inl ⟨_,hc,?_⟩
     rintro _ rfl
     repeat' first|refine sX ⟨?_⟩|(refine sp ?_ ?_<;>refine λh=>⟨?_⟩)|fail
     have e2:(r.extract (0:Int).toNat ((r.size:Int) - 1).toNat).toList=r.toList.dropLast:=by
      rw [aB3,List.dropLast_eq_take,show ((r.size:Int) - 1).toNat=r.toList.length - 1 by omega]
      simp
     have e3:=congrArg List.length e2
     rw [List.length_dropLast,Go.N.len_toList] at e3
     refine ⟨[],_,rfl,?_,_,rfl,?_,?_,rfl⟩
     · omega
     · omega
     · rw [e2,<-hr,er,List.dropWhile_cons,if_pos (by rw [<- hg];exact hp)]
def bT0:ByteArray:=⟨#[97,98,99,100,101,102,103,104,105,106,107,108,109,110,111,112,113,114,115,116,117,118,119,120,121,122,48,49,50,51,52,53,54,55,56,57]⟩
theorem aZq:bT0.toList=[97,98,99,100,101,102,103,104,105,106,107,108,109,110,111,112,113,114,115,116,117,118,119,120,121,122,48,49,50,51,52,53,54,55,56,57]:=by rw [ByteArray.toList_eq];rfl
def aRq (c:UInt8):Bool:=decide (97<=c.toNat/\c.toNat<=122) || decide (48<=c.toNat/\c.toNat<=57)
theorem bWx (c:UInt8):inS bT0.toList c=aRq c:=by
 rw [aZq]
 have:∀n:Fin 256,inS [97,98,99,100,101,102,103,104,105,106,107,108,109,110,111,112,113,114,115,116,117,118,119,120,121,122,48,49,50,51,52,53,54,55,56,57] ⟨⟨n⟩⟩=aRq ⟨⟨n⟩⟩:=by decide +kernel
 exact this c.toBitVec.toFin
theorem bMz {α:Type}{p:α->Bool}:∀{l:List α},l.dropWhile p=[]↔∀x∈l,p x=true
 |[]=>by simp
 |a::t=>by
  rw [List.dropWhile_cons]
  by_cases h:p a=true
  · rw [if_pos h,bMz];simp [h]
  · rw [if_neg h];simp [h]
theorem bTc {α:Type}(p:α->Bool) (l:List α):(l.reverse.dropWhile p).reverse.dropWhile p=[]↔l.all p=true:=by
 rw [bMz,List.all_eq_true]
 constructor
 · intro h
   have h1:l.reverse.dropWhile p=[]:=by
    cases hd:l.reverse.dropWhile p with
    |nil=>rfl
    |cons a t=>
     have ha:p a=false:=by
      have:=List.head_dropWhile_not p (l:=l.reverse) (by rw [hd];simp)
      simpa [hd] using this
     have:=h a (by rw [hd];simp)
     rw [ha] at this;cases this
   rw [bMz] at h1
   intro x hx
   exact h1 x (by simpa using hx)
 · intro h x hx
   refine h x ?_
   rw [List.mem_reverse] at hx
   have:=(List.dropWhile_suffix p).subset hx
   simpa using this
set_option maxHeartbeats 4000000 in
theorem bV8 (s:ByteArray) (hs:s.size<1000000) (h0:s.size≠0):aAc Tryz.prog gl 178 [.str s,.str bT0] (λx=>∃r,x= .str r/\(r=⟨#[]⟩↔s.toList.all aRq=true)):=by
 refine vgo bKj Tryz.func178 ?_
 have hne:¬s=⟨#[]⟩:=λe=>h0 (by rw [e];rfl)
 have hmk:=bL8 gl bT0 (by decide) (by rw [aZq];decide)
 repeat' first|refine sX ⟨?_⟩|(refine sp ?_ ?_<;>refine λh=>⟨?_⟩)|fail
 all_goals first|exact absurd (by assumption) hne|skip
 conv=>whnf
 refine .inl ⟨_,hmk,?_⟩
 rintro _ rfl
 repeat' first|refine sX ⟨?_⟩|(refine sp ?_ ?_<;>refine λh=>⟨?_⟩)|fail
 conv=>whnf
 refine .inl ⟨_,bR0 gl s bT0.toList hs,?_⟩
 rintro _ ⟨r,rfl,hr⟩
 repeat' first|refine sX ⟨?_⟩|(refine sp ?_ ?_<;>refine λh=>⟨?_⟩)|fail
 have hrs:r.size<=s.size:=by
  have:=congrArg List.length hr
  rw [List.length_reverse,Go.N.len_toList] at this
  have h2:=(List.dropWhile_suffix (inS bT0.toList) (l:=s.toList.reverse)).length_le
  rw [List.length_reverse,Go.N.len_toList] at h2
  omega
 conv=>whnf
 refine .inl ⟨_,bRz gl r bT0.toList (by omega),?_⟩
 rintro _ ⟨q,rfl,hq⟩
 repeat' first|refine sX ⟨?_⟩|(refine sp ?_ ?_<;>refine λh=>⟨?_⟩)|fail
 conv=>whnf
 refine ⟨q,rfl,?_⟩
 have e:inS bT0.toList=aRq:=funext bWx
 rw [hr,e] at hq
 rw [<- bTc,<-hq]
 constructor
 · intro h;rw [h,ByteArray.toList_eq]
 · intro h;refine aBl ?_;rw [h,ByteArray.toList_eq]
end Go.V
namespace Go.V
open Go.N Go.Proofs
def bCg:Tab:=[(9,i9),(3,i3),(5,i5)]
theorem aU4:TOK Tryz.prog bCg:=⟨K9,⟨K3,⟨K5,trivial⟩⟩⟩
theorem aK2 (s:ByteArray) (gl:Gl) (hs:s.size<9000000000):aAc Tryz.prog gl 130 [.str s] (λx=>x= .bool (aEi s.toList)):=by
 refine vgo aU4 Tryz.func130 ?_
 have hl:=Go.N.len_toList s
 conv=>whnf
 refine ⟨[0,3],[],λm st=>∃k:Nat,k<=s.size/\m=s.size - k/\(s.toList.take k).all aCe=true/\st=⟨[(0,.str s),(3,.int .i64 k)],[]⟩,rfl,⟨s.size,0,by simp,rfl,rfl,rfl⟩,?_⟩
 rintro m _ ⟨k,hk,hm,hd,rfl⟩
 repeat' first|refine sW ⟨?_⟩|(refine sp ?_ ?_<;>refine λh=>⟨?_⟩)|fail
 all_goals (conv=>whnf)
 · refine congrArg AV.bool (Eq.symm ?_)
   refine aZz (List.getElem_mem (n:=k) (by omega)) ?_
   simp only [aCe,Bool.and_eq_false_iff,decide_eq_false_iff_not];omega
 · refine congrArg AV.bool (Eq.symm ?_)
   refine aZz (List.getElem_mem (n:=k) (by omega)) ?_
   simp only [aCe,Bool.and_eq_false_iff,decide_eq_false_iff_not];omega
 · refine ⟨[],s.size - (k+1),rfl,by omega,k+1,by omega,rfl,?_,rfl⟩
   rw [List.take_add_one,List.all_append,hd,List.getElem?_eq_getElem (by omega)]
   simp only [Option.toList_some,List.all_cons,List.all_nil,aCe,Bool.and_true,Bool.true_and,Bool.and_eq_true,decide_eq_true_eq];omega
 · refine congrArg AV.bool (Eq.symm ?_)
   rw [List.take_of_length_le (by omega)] at hd
   simp only [aEi,hd,Bool.true_and,Bool.or_eq_true,decide_eq_true_eq];omega
 · rw [List.take_of_length_le (by omega)] at hd
   refine congrArg AV.bool ?_
   have hne:(s.toList[0]? =some 48)↔((s.toList[0]'(by omega)).toNat:Int)=48:=by
    rw [List.getElem?_eq_getElem (by omega),Option.some.injEq,<-UInt8.toNat_inj]
    simp;omega
   have h1:¬s.toList.length=1:=by omega
   have h2:1<s.toList.length:=by omega
   simp only [aEi,hd,Bool.true_and,h1,h2,decide_false,Bool.false_or,decide_true,hne]
 · refine congrArg AV.bool (Eq.symm ?_)
   have h1:¬s.toList.length=1:=by omega
   have h2:¬1<s.toList.length:=by omega
   simp [aEi,h1,h2]
end Go.V
namespace Go.V
open Go.N Go.Proofs
variable (gl:Gl)
def bCf:Tab:=[(9,i9),(3,i3),(5,i5)]
theorem aU3:TOK Tryz.prog bCf:=⟨K9,⟨K3,⟨K5,trivial⟩⟩⟩
def bCh:Tab:=[(9,i9),(3,i3),(5,i5)]
theorem aU5:TOK Tryz.prog bCh:=⟨K9,⟨K3,⟨K5,trivial⟩⟩⟩
def bQx:Tab:=[(27,i27),(3,i3),(5,i5),(143,cXr),(9,i9)]
theorem bHa:TOK Tryz.prog bQx:=⟨K27,⟨K3,⟨K5,⟨cX1,⟨K9,trivial⟩⟩⟩⟩⟩
def aVc:Tab:=[(9,i9),(3,i3)]
theorem aPc:TOK Tryz.prog aVc:=⟨K9,⟨K3,trivial⟩⟩
theorem aH6 (s:ByteArray) (hd:s.toList.all aCe=true) (hs:s.size<9000000000):aAc Tryz.prog gl 212 [.str s] (λx=>x= .str (aAx (aC8 s.toList))):=by
 refine vgo aU3 Tryz.func212 ?_
 conv=>whnf
 refine ⟨[0],[],λm st=>∃s':ByteArray,s'.size<=s.size/\m=s'.size/\s'.toList.all aCe=true/\aC8 s'.toList=aC8 s.toList/\st=⟨[(0,.str s')],[]⟩,rfl,⟨s.size,s,by omega,rfl,hd,rfl,rfl⟩,?_⟩
 rintro m _ ⟨t,ht,hm,htd,hv,rfl⟩
 have hl:=Go.N.len_toList t
 have fin:t.toList≠[]->(t.toList.length=1\/t.toList[0]? ≠some 48)->AV.str t=AV.str (aAx (aC8 s.toList)):=λh1 h2=>by
  rw [<- hv,<-bF0 (aWb htd h1 h2)]
 have fin0:t.toList=[]->AV.str ⟨#[48]⟩=AV.str (aAx (aC8 s.toList)):=λh1=>by
  rw [<- hv,h1,aB8];rfl
 repeat' first|refine sW ⟨?_⟩|(refine sp ?_ ?_<;>refine λh=>⟨?_⟩)|fail
 all_goals (conv=>whnf)
 · have hlt:t.size - 1<t.size:=by omega
   have e:(t.extract 1 t.size).toList=t.toList.drop 1:=by
    rw [aB3,List.take_of_length_le (by simp;omega)]
   have hc:t.toList=t.toList[0]::t.toList.drop 1:=by rw [List.getElem_cons_drop];simp
   have h0:t.toList[0]=48:=UInt8.toNat_inj.1 (by simp;omega)
   refine ⟨[],t.size - 1,rfl,by omega,t.extract 1 t.size,?_,?_,?_,?_,rfl⟩
   · simp;omega
   · simp
   · rw [e]
     rw [hc,List.all_cons,Bool.and_eq_true] at htd;exact htd.2
   · rw [e,<-hv]
     conv=>rhs;rw [hc,aI6,h0]
     simp
 · exact fin0 (aUp h)
 · refine fin (λe=>?_) (.inr λe=>?_)
   · rw [e] at hl;simp at hl;omega
   · rw [List.getElem?_eq_getElem (by omega),Option.some.injEq] at e
     rename_i h1
     exact h1 (by rw [e];rfl)
 · exact fin0 (aUp h)
 · refine fin (λe=>h (aBl (by rw [e,ByteArray.toList_eq]))) (.inl ?_)
   have:t.toList.length≠0:=λe=>h (aBl (by rw [List.eq_nil_of_length_eq_zero e,ByteArray.toList_eq]))
   omega
theorem aCq (n i:Nat) (hn:(dec n).length<9000000000) (hi:i<9000000000):aAc Tryz.prog gl 220 [.str (aAx n),.int .i64 i] (λx=>x= .int .i64 (dig n i)):=by
 refine vgo aU5 Tryz.func220 ?_
 have hz:=aAq n
 repeat' first|refine sW ⟨?_⟩|(refine sp ?_ ?_<;>refine λh=>⟨?_⟩)|fail
 all_goals (conv=>whnf)
 · refine congrArg (AV.int .i64) ?_
   rw [bZv (by omega)];rfl
 · have h1:=bR4 n i (by omega)
   have h2:=aI5 n i
   refine ⟨(dec n).length - 1 - i,dg (dig n i),by omega,by rw [aAu];exact h1,?_⟩
   have e:=aGw h2
   generalize dg (dig n i)=c at e
   have e':(c.toNat:Int)=48+(dig n i:Nat):=by omega
   repeat' first|refine sW ⟨?_⟩|(refine sp ?_ ?_<;>refine λh=>⟨?_⟩)|fail
   all_goals (conv=>whnf)
   refine congrArg (AV.int .i64) ?_
   omega
theorem aLv (m n:Nat) (hn:(dec n).length<9000000000) (hm:(dec m).length<9000000000):aAc Tryz.prog gl 181 [.str (aAx m),.str (aAx n)] (λx=>x= .int .i64 (aZo m n)):=by
 refine vgo aPc Tryz.func181 ?_
 have hl:=aAq n
 have hl2:=aAq m
 have key:(dec m).length=(dec n).length->(Op.bytesLess (aAx m).toList (aAx n).toList=true↔m<n):=λe=>by
  have:=aKq (dec m) (dec n) (aH8 m) (aH8 n) e
  rwa [aJ9,aJ9,<-aAu m,<-aAu n] at this
 repeat' first|refine sW ⟨?_⟩|(refine sp ?_ ?_<;>refine λh=>⟨?_⟩)|fail
 all_goals (conv=>whnf)
 all_goals refine congrArg (AV.int .i64) (Eq.symm ?_)
 · exact aH7 (aFt (by omega))
 · exact aP8 (aFt (by omega))
 · exact aH7 ((key (by omega)).1 h)
 · have h1:(dec m).length=(dec n).length:=by omega
   have k:=key h1
   rename_i h2
   rw [h2,Bool.false_or] at h
   have hne:¬m=n:=λe=>by subst e;simp at h
   have:¬m<n:=λhh=>by rw [k.2 hh] at h2;cases h2
   exact aP8 (by omega)
 · have h1:(dec m).length=(dec n).length:=by omega
   rename_i h2
   rw [h2,Bool.false_or] at h
   have e:(aAx m).toList=(aAx n).toList:=by simpa using h
   rw [aAu,aAu] at e
   exact bMq (bMt e.symm)
end Go.V
namespace Go.V
open Go.N Go.Proofs
variable (gl:Gl)
theorem aVv (L:List Nat) (hL:∀x∈L,x<10) (hn:L.length<9000000000):aAc Tryz.prog gl 221 [.ro 1 (aFn L)] (λx=>x= .str (aAx (aFr L))):=by
 refine vgo bHa Tryz.func221 ?_
 have hll:(aFn L).length=L.length:=by simp [aFn]
 repeat' first|refine sW ⟨?_⟩|(refine sp ?_ ?_<;>refine λh=>⟨?_⟩)|fail
 refine ⟨[0,3,4],[],λm st=>∃j:Nat,j<=L.length/\m=j/\((j=L.length/\st=⟨[(0,.ro 1 (aFn L)),(3,.nils),(4,.int .i64 ((j:Int) - 1))],[]⟩)\/
  ∃bl:List Nat,bl=((L.drop j).reverse).map (48+ ·)/\bl≠[]/\st=⟨[(0,.ro 1 (aFn L)),(3,.own 0 0 (aDy bl).length),(4,.int .i64 ((j:Int) - 1))],[.row false 5 1 (aDy bl)]⟩),rfl,⟨L.length,L.length,Nat.le_refl _,rfl,.inl ⟨rfl,?_⟩⟩,?_⟩
 · show (⟨[_,_,(4,.int .i64 (((aFn L).length:Int) - 1))],[]⟩:St)=_
   rw [hll];rfl
 have fin:∀bl:List Nat,bl=L.reverse.map (48+ ·)->∀s,s=sN (bl.map λ(x:Nat)=>(x:Int))->AV.str (aAx (aC8 s.toList))=AV.str (aAx (aFr L))/\s.toList.all aCe=true/\s.size=L.length:=λbl hb s hs=>by
  have e:s.toList=L.reverse.map dg:=by
   subst hb hs
   exact aR4 _ (by simpa using hL)
  refine ⟨by rw [e,aV4 L hL],by rw [e];exact bOk hL,?_⟩
  rw [<- Go.N.len_toList,e];simp
 have step:∀(q:Nat) (hq:q<L.length),((L.drop (q+1)).reverse).map (48+ ·)++[48+L[q]]=((L.drop q).reverse).map (48+ ·):=λq hq=>by
  rw [List.drop_eq_getElem_cons hq,List.reverse_cons,List.map_append];rfl
 rintro m _ ⟨j,hj,hm,⟨rfl,rfl⟩|⟨bl,hb,hb2,rfl⟩⟩
 · rcases hq:L.length with _|q
   · repeat' first|refine sW ⟨?_⟩|(refine sp ?_ ?_<;>refine λh=>⟨?_⟩)|fail
     have hL0:=List.eq_nil_of_length_eq_zero hq
     refine ⟨[],rfl,?_⟩
     repeat' first|refine sW ⟨?_⟩|(refine sp ?_ ?_<;>refine λh=>⟨?_⟩)|fail
     obtain ⟨f1,f2,f3⟩:=fin [] (by rw [hL0];rfl) (sN []) rfl
     refine .inl ⟨_,aH6 gl _ f2 (by omega),?_⟩
     rintro _ rfl
     repeat' first|refine sW ⟨?_⟩|(refine sp ?_ ?_<;>refine λh=>⟨?_⟩)|fail
     exact f1
   · rw [show ((q+1:Nat):Int) - 1=q by omega]
     have hd:=hL L[q] (List.getElem_mem (by omega))
     repeat' first|refine sW ⟨?_⟩|(refine sp ?_ ?_<;>refine λh=>⟨?_⟩)|fail
     refine ⟨Nat.le_of_ble_eq_true rfl,List.cons_ne_nil _ _,?_⟩
     repeat' first|refine sW ⟨?_⟩|(refine sp ?_ ?_<;>refine λh=>⟨?_⟩)|fail
     refine ⟨[1],q,rfl,by omega,q,by omega,rfl,.inr ⟨[48+L[q]],?_,by simp,?_⟩⟩
     · rw [<- step q (by omega),List.drop_of_length_le (by omega)];rfl
     · rfl
 · have hbl:bl.length<=L.length:=by rw [hb];simp
   rcases j with _|q
   · repeat' first|refine sW ⟨?_⟩|(refine sp ?_ ?_<;>refine λh=>⟨?_⟩)|fail
     refine ⟨_,bLr bl,?_⟩
     repeat' first|refine sW ⟨?_⟩|(refine sp ?_ ?_<;>refine λh=>⟨?_⟩)|fail
     obtain ⟨f1,f2,f3⟩:=fin bl (by rw [hb];simp) _ rfl
     refine .inl ⟨_,aH6 gl _ f2 (by omega),?_⟩
     rintro _ rfl
     repeat' first|refine sW ⟨?_⟩|(refine sp ?_ ?_<;>refine λh=>⟨?_⟩)|fail
     exact f1
   · rw [show ((q+1:Nat):Int) - 1=q by omega]
     have hd:=hL L[q] (List.getElem_mem (by omega))
     repeat' first|refine sW ⟨?_⟩|(refine sp ?_ ?_<;>refine λh=>⟨?_⟩)|fail
     refine ⟨Nat.le_refl _,(show (_+1)*1<=_ by simp;omega),_,aY1 bl (48+L[q]),?_⟩
     repeat' first|refine sW ⟨?_⟩|(refine sp ?_ ?_<;>refine λh=>⟨?_⟩)|fail
     refine ⟨[2],q,rfl,by omega,q,by omega,rfl,.inr ⟨bl++[48+L[q]],?_,by simp,?_⟩⟩
     · rw [hb];exact step q (by omega)
     · rfl
end Go.V
