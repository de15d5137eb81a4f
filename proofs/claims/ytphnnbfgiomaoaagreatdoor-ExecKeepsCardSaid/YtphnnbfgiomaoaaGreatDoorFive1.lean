/-
  Lemmas (part 1) for: the statement.
-/
import Derived.Calls
import Derived.Below
import Derived.Orders
import Derived.OwnWalk
import Derived.Laws.Rows
import Derived.Laws.CopyRow
import Derived.Laws.OwnMore
import Derived.Laws.MakeOwn
import Derived.Still
import Derived.Laws.Entries
import Derived.Deep.MidRow
import Derived.Tactics
import Derived.Laws.Small
import Derived.Laws.Strings
import Derived.Laws.BytesString
import Derived.Laws.Tables
import Derived.Great.FillDense
import Derived.Great.BuildSlice
import Derived.MapKept
import Derived.Maps.AppendAt
set_option linter.all false
namespace Go.V
open Go.RowKit
inductive AV where
 |j
 |u
 |int (k:IntKind) (n:Int)
 |bool (b:Bool)
 |str (s:ByteArray)
 |agg (cs:List AV)
 |tup (cs:List AV)
 |nils
 |ro (sz:Nat) (es:List (List AV))
 |fr (e sz:Nat) (es:List (List AV))
 |own (p off len:Nat)
 |rp (cs:List AV)
 |bptr (p c:Nat)
 |ptr (p i c:Nat)
 |fn (f:FuncId) (cap:List AV)
 |map (p:Nat)
 |iface (t:TypeId) (x:AV)
 |nili
 deriving Inhabited
inductive Ob where
 |dead
 |gone
 |box (t:TypeId) (cs:List AV)
 |row (fz:Bool) (e sz:Nat) (es:List (List AV))
 |kv (l:List (ByteArray×AV))
 |iter (s:ByteArray) (k:Nat)
 deriving Inhabited
def Ob.sz:Ob->Option (Option (Nat×Nat))
 | .dead=>none
 | .gone=>some none
 | .box _ _=>some (some (0,0))
 | .row _ _ sz es=>some (some (sz,es.length))
 | .kv _=>some (some (0,0))
 | .iter _ _=>some (some (0,0))
def aAd:List Ob->Nat->Ob
 |[],_=>.dead
 |o::_,0=>o
 |_::r,p+1=>aAd r p
def aGr:List Ob->Nat->Ob->List Ob
 |[],0,x=>[x]
 |[],p+1,x=>.dead::aGr [] p x
 |_::r,0,x=>x::r
 |o::r,p+1,x=>o::aGr r p x
structure Hp where
 h:List Ob
 β:Nat->Nat
 κ:Nat->Nat
def Hp.at (H:Hp) (p:Nat):Option (Option (Nat×Nat)):=(aAd H.h p).sz
def H0:Hp:=⟨[],λ_=>0,λ_=>0⟩
def One (vs:List Value):Prop:=∀u∈vs,u.oneCell'=true
mutual
def aAi (S:Nat->Prop) (H:Hp) (w:World):AV->Value->Prop
 | .j,_=>True
 | .u,v=>v= .tuple #[]
 | .int k n,v=>v= .int k n
 | .bool b,v=>v= .bool b
 | .str s,v=>v= .string s
 | .agg cs,v=>∃vs:List Value,v= .agg vs.toArray/\One vs/\aAt S H w cs vs
 | .tup cs,v=>∃vs:List Value,v= .tuple vs.toArray/\aAt S H w cs vs
 | .nils,v=>v= .slice none 0 0
 | .ro sz es,v=>∃A c,v= .slice A es.length c/\es.length<=c/\c<=maxLen/\(es=[]\/∃a:Addr,A=some a/\S a.block/\a.block<w.heap.size/\
    ∃vss:List (List Value),aAr S w es vss/\(∀ vs∈vss,vs.length=sz/\One vs)/\∀i vs,vss[i]? =some vs->∀k u,vs[k]? =some u->w.cell? (a.add (i*sz+k))=some u)
 | .fr _ _ _,_=>False
 | .own p off len,v=>v.oneCell'=true/\H.at p≠none/\∀sz,H.at p=some (some sz)->v= .slice (some ⟨H.β p,off*sz.1,none⟩) len (H.κ p - off)/\off+len<=sz.2
 | .rp cs,v=>∃a:Addr,v= .pointer (some a)/\S a.block/\a.block<w.heap.size/\∃vs:List Value,aAt S H0 w cs vs/\One vs/\∀k u,vs[k]? =some u->w.cell? (a.add k)=some u
 | .bptr p c,v=>v.oneCell'=true/\H.at p≠none/\∀sz,H.at p=some (some sz)->v= .pointer (some ⟨H.β p,c,none⟩)
 | .ptr p i c,v=>v.oneCell'=true/\H.at p≠none/\∀sz,H.at p=some (some sz)->v= .pointer (some ⟨H.β p,i*sz.1+c,none⟩)
 | .fn f cap,v=>∃vs:List Value,v= .func (.func f) #[] vs.toArray/\aAt S H w cap vs
 | .map p,v=>v.oneCell'=true/\H.at p≠none/\∀sz,H.at p=some (some sz)->v= .map (some (H.β p))
 | .iface t x,v=>∃u,v= .iface t u/\aAi S H w x u
 | .nili,v=>v= .nilIface
def aAt (S:Nat->Prop) (H:Hp) (w:World):List AV->List Value->Prop
 |[],vs=>vs=[]
 |x::xs,vs=>∃v r,vs=v::r/\aAi S H w x v/\aAt S H w xs r
def aAr (S:Nat->Prop) (w:World):List (List AV)->List (List Value)->Prop
 |[],vs=>vs=[]
 |x::xs,vs=>∃v r,vs=v::r/\aAt S H0 w x v/\aAr S w xs r
end
theorem aY0 (p:Nat):H0.at p=none:=rfl
structure Later (S:Nat->Prop) (H:Hp) (w:World) (S':Nat->Prop) (H':Hp) (w':World):Prop where
 blk:∀b,S b->b<w.heap.size->S' b/\w'.heap[b]? =w.heap[b]?
 size:w.heap.size<=w'.heap.size
 ob:∀p,H.at p≠none->H'.at p≠none/\∀sz,H'.at p=some (some sz)->H.at p=some (some sz)/\H'.β p=H.β p/\H'.κ p=H.κ p
theorem Later.zero {S S' H H' w w'} (L:Later S H w S' H' w'):Later S H0 w S' H0 w':=
 ⟨L.blk,L.size,λp h=>absurd (aY0 p) h⟩
theorem Later.cell {S S' H H' w w'} (L:Later S H w S' H' w'){a:Addr}(hs:S a.block) (hb:a.block<w.heap.size){k:Nat}{u:Value}
 (h:w.cell? (a.add k)=some u):w'.cell? (a.add k)=some u:=by
 have e:=(L.blk a.block hs hb).2
 have:(a.add k).block=a.block:=by unfold Addr.add;split<;>rfl
 rw [World.cell?_of_block (w:=w) (by rw [this];exact e)];exact h
mutual
theorem aAi.later {S S' H H' w w'} (L:Later S H w S' H' w'):∀(x:AV) (v:Value),aAi S H w x v->aAi S' H' w' x v
 | .j,_,_=>by simp [aAi]
 | .u,_,h| .int _ _,_,h| .bool _,_,h| .str _,_,h| .nils,_,h| .nili,_,h=>by simpa [aAi] using h
 | .fr _ _ _,_,h=>by simp [aAi] at h
 | .agg cs,v,h=>by
   simp only [aAi] at h ⊢
   obtain ⟨vs,e,h1,hl⟩:=h
   exact ⟨vs,e,h1,aAt.later L cs vs hl⟩
 | .tup cs,v,h| .fn _ cs,v,h=>by
   simp only [aAi] at h ⊢
   obtain ⟨vs,e,hl⟩:=h
   exact ⟨vs,e,aAt.later L cs vs hl⟩
 | .ro sz es,v,h=>by
   simp only [aAi] at h ⊢
   obtain ⟨A,c,e,hc,hm,h⟩:=h
   refine ⟨A,c,e,hc,hm,?_⟩
   rcases h with h|⟨a,ea,hs,hb,vss,hl,hz,hcell⟩
   · exact .inl h
   · exact .inr ⟨a,ea,(L.blk _ hs hb).1,Nat.lt_of_lt_of_le hb L.size,vss,aAr.later L.zero es vss hl,hz,λi vs hi k u hk=>L.cell hs hb (hcell i vs hi k u hk)⟩
 | .own p off len,v,h=>by
   simp only [aAi] at h ⊢
   obtain ⟨hn,hob⟩:=L.ob p h.2.1
   refine ⟨h.1,hn,λsz hp=>?_⟩
   obtain ⟨e,eb,ek⟩:=hob sz hp
   rw [eb,ek];exact h.2.2 sz e
 | .rp cs,v,h=>by
   simp only [aAi] at h ⊢
   obtain ⟨a,e,hs,hb,vs,hl,h1,hcell⟩:=h
   exact ⟨a,e,(L.blk _ hs hb).1,Nat.lt_of_lt_of_le hb L.size,vs,aAt.later L.zero cs vs hl,h1,λk u hk=>L.cell hs hb (hcell k u hk)⟩
 | .ptr p i c,v,h=>by
   simp only [aAi] at h ⊢
   obtain ⟨hn,hob⟩:=L.ob p h.2.1
   refine ⟨h.1,hn,λsz hp=>?_⟩
   obtain ⟨e,eb,ek⟩:=hob sz hp
   rw [eb];exact h.2.2 sz e
 | .bptr p c,v,h| .map p,v,h=>by
   simp only [aAi] at h ⊢
   obtain ⟨hn,hob⟩:=L.ob p h.2.1
   refine ⟨h.1,hn,λsz hp=>?_⟩
   obtain ⟨e,eb,ek⟩:=hob sz hp
   rw [eb];exact h.2.2 sz e
 | .iface t x,v,h=>by
   simp only [aAi] at h ⊢
   obtain ⟨u,e,hx⟩:=h
   exact ⟨u,e,aAi.later L x u hx⟩
theorem aAt.later {S S' H H' w w'} (L:Later S H w S' H' w'):∀(xs:List AV) (vs:List Value),aAt S H w xs vs->aAt S' H' w' xs vs
 |[],vs,h=>by simpa [aAt] using h
 |x::xs,vs,h=>by
  simp only [aAt] at h ⊢
  obtain ⟨v,r,e,hx,hr⟩:=h
  exact ⟨v,r,e,aAi.later L x v hx,aAt.later L xs r hr⟩
theorem aAr.later {S S' w w'} (L:Later S H0 w S' H0 w'):∀(xs:List (List AV)) (vs:List (List Value)),aAr S w xs vs->aAr S' w' xs vs
 |[],vs,h=>by simpa [aAr] using h
 |x::xs,vs,h=>by
  simp only [aAr] at h ⊢
  obtain ⟨v,r,e,hx,hr⟩:=h
  exact ⟨v,r,e,aAt.later L x v hx,aAr.later L xs r hr⟩
end
end Go.V
namespace Go.V
inductive TK where
 |bad|int (k:IntKind)|bool|str|slice (e:TypeId)|ptr (e:TypeId)|strc (fs:List (Nat×Nat×Bool))|arr (n:Nat) (e:TypeId)|map (e:TypeId)|fn|iface|tup
 deriving Inhabited
structure TI where
 k:TK
 size:Nat
 bytes:Nat
 zv:Value
 csz:List Nat
 deriving Inhabited
abbrev Tab:=List (Nat×TI)
def lk {α:Type}(d:α):List (Nat×α)->Nat->α
 |[],_=>d
 |(k,v)::r,t=>match Nat.beq k t with|true=>v|false=>lk d r t
def Tab.ti (T:Tab) (t:Nat):TI:=lk ⟨.bad,0,0,undef,[]⟩ T t
structure St where
 t:List (Nat×AV)
 h:List Ob
def St.get (st:St) (t:Nat):AV:=lk .j st.t t
def St.put (st:St):Option Tmp->AV->St
 |some d,v=>⟨(d,v)::st.t,st.h⟩
 |none,_=>st
def cav:Value->AV
 | .int k n=>.int k n
 | .bool b=>.bool b
 | .string s=>.str s
 | .nilIface=>.nili
 | .slice none 0 0=>.nils
 |_=>.j
def TI.zero (ti:TI):List AV:=ti.zv.cells.toList.map cav
def Tab.sl (T:Tab) (t:Nat) (K:Nat->TI->Prop):Prop:=
 match (T.ti t).k with
 | .slice e=>match (T.ti e).k with
   | .bad=>False
   |_=>K e (T.ti e)
 |_=>False
abbrev Gl:=List (Nat×List AV)
def bM9:Gl->Nat->AV
 |[],_=>.j
 |(k,cs)::r,g=>match Nat.beq k g with|true=>.rp cs|false=>bM9 r g
def St.ev (gl:Gl) (st:St):Operand->AV
 | .tmp t=>st.get t
 | .const v=>cav v
 | .global g=>bM9 gl g
 | .func f=>.fn f []
def aGp (G:Nat->Ob):AV->AV
 | .own p off len=>match G p with
   | .row _ _ sz es=>.ro sz ((es.drop off).take len)
   |_=>.j
 | .bptr _ _=>.j
 | .ptr _ _ _=>.j
 | .map _=>.j
 | .agg _=>.j
 | .tup _=>.j
 | .fn _ (_::_)=>.j
 | .iface _ _=>.j
 |x=>x
def aDv (G:Nat->Ob) (sz:Nat):AV->AV
 | .nils=>.ro sz []
 | .own p off len=>match G p with
   | .row _ _ sz es=>.ro sz ((es.drop off).take len)
   |_=>.j
 | .bptr p c=>match G p with
   | .box _ cs=>.rp ((cs.drop c).map (aGp G))
   |_=>.j
 | .ptr _ _ _=>.j
 | .map _=>.j
 | .agg _=>.j
 | .tup _=>.j
 | .fn _ _=>.j
 | .iface _ _=>.j
 |x=>x
def aMc (G:Nat->Ob):List Nat->List AV->List AV
 |_,[]=>[]
 |[],x::xs=>aDv G 0 x::aMc G [] xs
 |s::ss,x::xs=>aDv G s x::aMc G ss xs
def bPb (G:Nat->Ob) (ti:TI):AV->AV
 | .agg cs=>.agg (aMc G ti.csz cs)
 | .fn f cs=>.fn f (aMc G [] cs)
 | .tup _=>.j
 |x=>aDv G (ti.csz.headD 0) x
def cells:AV->List AV
 | .agg cs=>cs
 | .j| .u| .tup _| .fr _ _ _=>[]
 |x=>[x]
def chk (b:Bool) (K:Prop):Prop:=match b with|true=>K|false=>False
def bTa (n:Nat) (x:AV):Bool:=Nat.beq (cells x).length n && !(Nat.beq n 0)
def TI.ag (ti:TI):Bool:=match ti.k with| .strc _=>true| .arr _ _=>true|_=>false
def bAb:AV->List Nat
 | .own p _ _=>[p]
 |_=>[]
def aG1:List AV->List Nat
 |[]=>[]
 |x::xs=>bAb x++aG1 xs
def aRl (G:Nat->Ob):AV->List Nat
 | .bptr p _=>match G p with
   | .box _ cs=>p::aG1 cs
   |_=>[]
 |x=>bAb x
def aFc (G:Nat->Ob):List AV->List Nat
 |[]=>[]
 |x::xs=>aRl G x++aFc G xs
def bW8 (G:Nat->Ob):AV->List Nat
 | .agg cs=>aFc G cs
 | .fn _ cs=>aFc G cs
 |x=>aRl G x
def aFd (G:Nat->Ob):List AV->List Nat
 |[]=>[]
 |x::xs=>bW8 G x++aFd G xs
def bIj (G:Nat->Ob):List Nat->List (Nat×Ob)
 |[]=>[]
 |p::r=>match G p with
  | .row _ e sz es=>(p,.row true e sz es)::bIj G r
  |_=>bIj G r
def aLn (G:Nat->Ob):List Nat->Bool
 |[]=>false
 |p::r=>match G p with
  | .box _ _=>true
  |_=>aLn G r
def aDf (h:List Ob):List (Nat×Ob)->List Ob
 |[]=>h
 |(p,o)::r=>aDf (aGr h p o) r
def bUc:List Nat->Nat->Nat->Option Nat
 |[],_,_=>none
 |q::r,i,p=>match Nat.beq q p with|true=>some i|false=>bUc r (i+1) p
mutual
def ren (ps:List Nat):AV->AV
 | .own q off len=>match bUc ps 0 q with|some p=>.own p off len|none=>.j
 | .ptr q i c=>match bUc ps 0 q with|some p=>.ptr p i c|none=>.j
 | .bptr q c=>match bUc ps 0 q with|some p=>.bptr p c|none=>.j
 | .map q=>match bUc ps 0 q with|some p=>.map p|none=>.j
 | .agg cs=>.agg (bBd ps cs)
 | .tup cs=>.tup (bBd ps cs)
 | .fn f cs=>.fn f (bBd ps cs)
 | .iface t x=>.iface t (ren ps x)
 |x=>x
def bBd (ps:List Nat):List AV->List AV
 |[]=>[]
 |x::xs=>ren ps x::bBd ps xs
end
def aTf (ps:List Nat):Ob->Ob
 | .box t cs=>.box t (bBd ps cs)
 | .kv l=>.kv (l.map λkx=>(kx.1,ren ps kx.2))
 |o=>o
def bIo (st:St) (ps:List Nat):List Nat->List (Nat×AV)
 |[]=>[]
 |k::r=>(k,ren ps (st.get k))::bIo st ps r
def aOa (h:List Ob) (ps:List Nat):List Nat->List Ob
 |[]=>[]
 |p::r=>aTf ps (aAd h p)::aOa h ps r
def St.keep (st:St) (live ps:List Nat):St:=⟨bIo st ps live,aOa st.h ps ps⟩
mutual
def roQ:AV->Option Bool
 | .ro _ []=>some false
 | .ro _ _=>some true
 | .agg cs=>bXs cs
 | .tup cs=>bXs cs
 | .fn _ cs=>bXs cs
 | .iface _ x=>roQ x
 | .rp _=>some true
 | .fr _ _ _=>none
 |_=>some false
def bXs:List AV->Option Bool
 |[]=>some false
 |x::xs=>match roQ x with
  |some true=>some true
  |some false=>bXs xs
  |none=>match bXs xs with
   |some true=>some true
   |_=>none
end
mutual
def aIr:AV->Prop
 | .ro _ es=>es=[]
 | .agg cs=>aH3 cs
 | .tup cs=>aH3 cs
 | .fn _ cs=>aH3 cs
 | .iface _ x=>aIr x
 | .rp _=>False
 | .fr _ _ es=>∀cs∈es,aH3 cs
 |_=>True
def aH3:List AV->Prop
 |[]=>True
 |x::xs=>aIr x/\aH3 xs
end
mutual
def aEs (n:Nat):AV->AV×List (Nat×Ob)
 | .fr e sz es=>(.own n 0 es.length,[(n,.row false e sz es)])
 | .agg cs=>match aFk n cs with|(cs',d)=>(.agg cs',d)
 | .tup cs=>match aFk n cs with|(cs',d)=>(.tup cs',d)
 |x=>(x,[])
def aFk (n:Nat):List AV->List AV×List (Nat×Ob)
 |[]=>([],[])
 |x::xs=>match aEs n x with
  |(x',d)=>match aFk (n+d.length) xs with
   |(xs',d')=>(x'::xs',d++d')
end
def ldc (ti:TI) (cs:List AV) (K:AV->Prop):Prop:=
 match ti.k with
 | .bad=>False
 |_=>match ti.ag with
  |true=>chk (Nat.ble ti.size cs.length) (K (.agg (cs.take ti.size)))
  |false=>match cs with
   |x::_=>K x
   |[]=>False
def aSi:List AV->Nat->List AV->List AV
 |cs,0,[]=>cs
 |[],_,_=>[]
 |_::cs,0,x::xs=>x::aSi cs 0 xs
 |c::cs,n+1,xs=>c::aSi cs n xs
def veq (dr neg cst:Bool) (ti:TI) (x y:AV) (K:AV->Prop):Prop:=
 match ti.k with
 | .bool=>match x,y with
   | .bool a,.bool b=>∃r,r=((a == b) != neg)/\K (.bool r)
   |_,_=>False
 | .iface=>match cst with
   |true=>match x,y with
    | .nili,.nili=>K (.bool (!neg))
    | .iface _ _,.nili=>K (.bool neg)
    |_,_=>False
   |false=>False
 | .slice _=>match y with
   | .nils=>match x with
     | .nils=>K (.bool (!neg))
     | .ro _ es=>match es with
       |[]=>match dr with
        |true=>False
        |false=>K (.bool true)/\K (.bool false)
       |_::_=>K (.bool neg)
     |_=>False
   |_=>False
 |_=>False
def ikn:IntKind->Nat
 | .i8=>0| .i16=>1| .i32=>2| .i64=>3| .u8=>4| .u16=>5| .u32=>6| .u64=>7
def bFi (k k':IntKind):Bool:=Nat.beq (ikn k) (ikn k')
def cA6 (dr:Bool) (op:BinOp) (cst:Bool) (ti:TI) (x y:AV) (K:AV->Prop):Prop:=
 match op,x,y with
 | .shl,.int k a,.int _ b=>0<=b/\∃r,r=k.wrap (a*2 ^ (min b.toNat k.bits))/\K (.int k r)
 | .shr,.int k a,.int _ b=>0<=b/\∃r,r=a.fdiv (2 ^ (min b.toNat k.bits))/\K (.int k r)
 | .add,.int k a,.int k' b=>chk (bFi k k') <| ∃r,r=k.wrap (a+b)/\K (.int k r)
 | .sub,.int k a,.int k' b=>chk (bFi k k') <| ∃r,r=k.wrap (a - b)/\K (.int k r)
 | .mul,.int k a,.int k' b=>chk (bFi k k') <| ∃r,r=k.wrap (a*b)/\K (.int k r)
 | .quo,.int k a,.int k' b=>chk (bFi k k') <| b≠0/\∃r,r=k.wrap (a.tdiv b)/\K (.int k r)
 | .rem,.int k a,.int k' b=>chk (bFi k k') <| b≠0/\∃r,r=a.tmod b/\K (.int k r)
 | .eql,.int k a,.int k' b=>chk (bFi k k') <| K (.bool (decide (a=b)))
 | .neq,.int k a,.int k' b=>chk (bFi k k') <| K (.bool (!decide (a=b)))
 | .lss,.int k a,.int k' b=>chk (bFi k k') <| K (.bool (decide (a<b)))
 | .leq,.int k a,.int k' b=>chk (bFi k k') <| K (.bool (decide (a<=b)))
 | .gtr,.int k a,.int k' b=>chk (bFi k k') <| K (.bool (decide (b<a)))
 | .geq,.int k a,.int k' b=>chk (bFi k k') <| K (.bool (decide (b<=a)))
 | .or,.int k a,.int k' b=>chk (bFi k k') <| 0<=a/\a<2 ^ k.bits/\0<=b/\b<2 ^ k.bits/\∃r,r=k.wrap ((a.toNat ||| b.toNat:Nat):Int)/\K (.int k r)
 | .and,.int k a,.int k' b=>chk (bFi k k') <| 0<=a/\a<2 ^ k.bits/\0<=b/\b<2 ^ k.bits/\∃r,r=k.wrap ((a.toNat &&& b.toNat:Nat):Int)/\K (.int k r)
 | .add,.str a,.str b=>a.size+b.size<=9223372036854775807/\K (.str (a++b))
 | .eql,.str a,.str b=>K (.bool (decide (a=b)))
 | .neq,.str a,.str b=>K (.bool (!decide (a=b)))
 | .lss,.str a,.str b=>K (.bool (Op.bytesLess a.toList b.toList))
 | .gtr,.str a,.str b=>K (.bool (!(Op.bytesLess a.toList b.toList || a.toList == b.toList)))
 | .eql,x,y=>veq dr false cst ti x y K
 | .neq,x,y=>veq dr true cst ti x y K
 |_,_,_=>False
end Go.V
namespace Go.V
open Go.RowKit
def aO7 (S:Nat->Prop) (w:World) (b cap e sz:Nat) (es:List (List AV)):Prop:=
 ∃(cur:Array Value) (vss:List (List Value)),w.heap[b]? =some (.cells cur e (0,0))/\cur.size=cap*sz/\0<sz/\es.length<=cap/\cap<=maxLen/\
  aAr S w es vss/\(∀ vs∈vss,vs.length=sz/\One vs)/\cur.toList.take (es.length*sz)=vss.flatten
structure Base where
 w0:World
 M:Nat->Prop
 S0:Nat->Prop
 pins:List (Nat×Nat×Option (Option (Nat×Nat)))
def aC6 (S:Nat->Prop) (H:Hp) (w:World):List (ByteArray×AV)->List MapEntry->Prop
 |[],es=>es=[]
 |(k,x)::r,es=>∃(v:Value) (b:Nat) (es':List MapEntry),es=⟨.string k,v,b⟩::es'/\aAi S H w x v/\aC6 S H w r es'
structure HeapOK (S:Nat->Prop) (B:Base) (H:Hp) (w:World):Prop where
 sb:∀b,S b->b<w.heap.size
 row:∀p fz e sz es,aAd H.h p= .row fz e sz es->aO7 S w (H.β p) (H.κ p) e sz es/\(S (H.β p)↔fz=true)
 box:∀p t cs,aAd H.h p= .box t cs->∃vs:List Value,w.heap[H.β p]? =some (.cells vs.toArray t (0,0))/\One vs/\aAt S H w cs vs/\¬S (H.β p)
 kv:∀p l,aAd H.h p= .kv l->∃(es:Array MapEntry) (c:Nat),w.heap[H.β p]? =some (.map es c)/\aC6 S H w l es.toList/\¬S (H.β p)
 inj:∀p q s s',H.at p=some (some s)->H.at q=some (some s')->H.β p=H.β q->¬S (H.β p)->p=q
 it:∀p x k,aAd H.h p= .iter x k->w.heap[H.β p]? =some (.stringIter x k)/\¬S (H.β p)
 mine:∀p s,H.at p=some (some s)->¬S (H.β p)->B.w0.heap.size<=H.β p\/B.M (H.β p)
structure Kept (B:Base) (w:World):Prop where
 os:w.os=B.w0.os
 tape:w.tape=B.w0.tape
 output:w.output=B.w0.output
 size:B.w0.heap.size<=w.heap.size
 block:∀k,k<B.w0.heap.size->¬B.M k->w.heap[k]? =B.w0.heap[k]?
def bJk (S:Nat->Prop) (w:World) (gl:Gl):Prop:=∀g cs,(g,cs)∈gl->aAi S H0 w (.rp cs) (.pointer (some ⟨g,0,none⟩))/\∃c e f,w.heap[g]? =some (.cells c e f)/\c.size=cs.length
mutual
def aDw (S:Nat->Prop) (B:Nat) (w:World):AV->Value->List (Nat×Nat)->Prop
 | .fr e sz es,v,F=>∃b cap,F=[(b,cap)]/\v= .slice (some ⟨b,0,none⟩) es.length cap/\B<=b/\aO7 S w b cap e sz es
 | .agg cs,v,F=>∃vs:List Value,v= .agg vs.toArray/\One vs/\aC5 S B w cs vs F
 | .tup cs,v,F=>∃vs:List Value,v= .tuple vs.toArray/\aC5 S B w cs vs F
 |x,v,F=>F=[]/\aAi S H0 w x v
def aC5 (S:Nat->Prop) (B:Nat) (w:World):List AV->List Value->List (Nat×Nat)->Prop
 |[],vs,F=>vs=[]/\F=[]
 |x::xs,vs,F=>∃v r F1 F2,vs=v::r/\F=F1++F2/\aDw S B w x v F1/\aC5 S B w xs r F2
end
def bGt (S:Nat->Prop) (B:Nat) (w:World) (x:AV) (v:Value):Prop:=
 ∃(S':Nat->Prop) (F:List (Nat×Nat)),aDw S' B w x v F/\(F.map (·.1)).Nodup/\(∀ q∈F,¬S' q.1)/\∀b,S' b->b<w.heap.size/\(S b\/B<=b)
def bX7 (P:Program) (f:FuncId) (args:Array Value) (w:World) (R:Value->World->Prop):Prop:=
 ((callFunc f args).run P w= .ok (.enter f args) w/\Calls P f args w λe w'=>∃v,e= .returned v/\R v w')\/
 (∃ v w',(callFunc f args).run P w= .ok (.value v) w'/\R v w')\/
 (∃ row aS w1,(callFunc f args).run P w= .ok (.row row aS) w1/\Rows P row aS w1 R)
theorem bX7.mono {P:Program}{f:FuncId}{args:Array Value}{w:World}{R R':Value->World->Prop}(h:bX7 P f args w R) (hr:∀v w',R v w'->R' v w'):bX7 P f args w R':=by
 rcases h with ⟨h1,h2⟩|⟨v,w',h1,h2⟩|⟨row,aS,w1,h1,h2⟩
 · exact .inl ⟨h1,h2.mono λ_ _ ⟨v,e,r⟩=>⟨v,e,hr _ _ r⟩⟩
 · exact .inr (.inl ⟨v,w',h1,hr _ _ h2⟩)
 · exact .inr (.inr ⟨row,aS,w1,h1,h2.mono hr⟩)
def aAc (P:Program) (gl:Gl) (f:FuncId) (args:List AV) (R:AV->Prop):Prop:=
 ∀(S:Nat->Prop) (w:World) (vs:List Value),(∀ b,S b->b<w.heap.size)->bJk S w gl->aAt S H0 w args vs->
  bX7 P f vs.toArray w λv w'=>∃x,R x/\bGt S w.heap.size w' x v/\Below w.heap.size w w'
def Pin (B:Base) (H:Hp):Prop:=∀i q,B.pins[i]? =some q->H.at i≠none/\∀s,H.at i=some (some s)->H.β i=q.1/\H.κ i=q.2.1/\q.2.2=some (some s)
def aGt (S:Nat->Prop) (H:Hp) (b:Nat):Prop:=∃p s,H.at p=some (some s)/\b=H.β p/\¬S b
def aIw (S:Nat->Prop) (H:Hp) (w:World):Base:=⟨w,aGt S H,S,(List.range H.h.length).map λi=>(H.β i,H.κ i,H.at i)⟩
def aFp (P:Program) (gl:Gl) (f:FuncId) (args:List AV) (obs:List Ob) (R:AV->List Ob->Prop):Prop:=
 ∀(S:Nat->Prop) (H:Hp) (w:World) (vs:List Value),H.h=obs->(∀ i,i<obs.length->H.at i≠none)->HeapOK S (aIw S H w) H w->bJk S w gl->aAt S H w args vs->
  bX7 P f vs.toArray w λv w'=>∃x S' H',R x H'.h/\HeapOK S' (aIw S H w) H' w'/\Kept (aIw S H w) w'/\(∀ b,S b->S' b)/\(∀ b,S' b->S b\/w.heap.size<=b\/aGt S H b)/\
   Pin (aIw S H w) H'/\aAi S' H' w' x v
theorem aFp.mono {P:Program}{gl:Gl}{f:FuncId}{args:List AV}{obs:List Ob}{R R':AV->List Ob->Prop}(h:aFp P gl f args obs R) (hr:∀x h',R x h'->R' x h'):aFp P gl f args obs R':=
 λS H w vs h1 h2 h3 h4 h5=>(h S H w vs h1 h2 h3 h4 h5).mono λ_ _ ⟨x,S',H',r,rest⟩=>⟨x,S',H',hr x _ r,rest⟩
theorem aAc.mono {P:Program}{gl:Gl}{f:FuncId}{args:List AV}{R R':AV->Prop}(h:aAc P gl f args R) (hr:∀x,R x->R' x):aAc P gl f args R':=
 λS w vs h1 h2 h3=>(h S w vs h1 h2 h3).mono λ_ _ ⟨x,r,rest⟩=>⟨x,hr x r,rest⟩
end Go.V
namespace Go.V
def isc:Operand->Bool| .const _=>true|_=>false
def aOu (fs:List (Nat×Nat×Bool)):List AV->List (Nat×AV)->List AV
 |cs,[]=>cs
 |cs,(i,x)::r=>match fs[i]? with
  |some (off,_,_)=>aOu fs (aSi cs off (cells x)) r
  |none=>[]
def aW5 (fs:List (Nat×Nat×Bool)) (len:Nat):List (Nat×AV)->Bool
 |[]=>true
 |(i,x)::r=>match fs[i]? with
  |some (off,n,_)=>bTa n x && Nat.ble (off+n) len && aW5 fs len r
  |none=>false
def aD4 (G:Nat->Ob) (ti:TI):Nat->List (Nat×AV)->Option (List (List AV))
 |_,[]=>some []
 |i,(k,x)::r=>match Nat.beq k i && bTa ti.size x with
  |true=>(aD4 G ti (i+1) r).map (((cells x).map (aGp G)):: ·)
  |false=>none
def aKt:List (Nat×AV)->List Nat
 |[]=>[]
 |(_,x)::r=>aG1 (cells x)++aKt r
def TI.el (ti:TI):Nat:=match ti.k with| .slice e=>e| .ptr e=>e| .arr _ e=>e| .map e=>e|_=>0
def aLc (G:Nat->Ob) (p:Nat):Bool:=match G p with| .dead=>false| .gone=>false|_=>true
def bnd (x:Option AV) (d:Int) (K:Int->Prop):Prop:=
 match x with
 |none=>K d
 |some (.int _ n)=>K n
 |some _=>False
def aSd (T:Tab) (t:Nat) (G:Nat->Ob) (x:AV) (lo hi:Option AV) (K:AV->Prop):Prop:=
 match (T.ti t).k with
 | .str=>match x with
   | .str s=>bnd lo 0 λl=>bnd hi s.size λu=>0<=l/\l<=u/\u<=s.size/\∃r,r=s.extract l.toNat u.toNat/\K (.str r)
   |_=>False
 |_=>T.sl t λ_ ti=>match x with
  | .ro sz es=>chk (Nat.beq sz ti.size) <| bnd lo 0 λl=>bnd hi es.length λu=>0<=l/\l<=u/\u<=es.length/\∃r,r=(es.drop l.toNat).take (u.toNat - l.toNat)/\K (.ro sz r)
  | .nils=>bnd lo 0 λl=>bnd hi 0 λu=>l=0/\u=0/\K .nils
  | .own p off len=>match G p with
    | .row _ _ sz _=>chk (Nat.beq sz ti.size) <| bnd lo 0 λl=>bnd hi len λu=>0<=l/\l<=u/\u<=len/\(l=0\/l<u)/\∃o' n':Nat,(o':Int)=off+l/\(n':Int)=u - l/\K (.own p o' n')
    |_=>False
  |_=>False
def aSc (T:Tab) (t:Nat) (G:Nat->Ob) (x:AV) (i:Int) (K:AV->Prop):Prop:=
 match (T.ti t).k with
 | .arr m e=>match (T.ti e).k with
   | .bad=>False
   |_=>match x with
    | .rp cs=>∃j:Nat,i=j/\j<m/\K (.rp (cs.drop (j*(T.ti e).size)))
    | .bptr p c=>chk (aLc G p) <| ∃j:Nat,i=j/\j<m/\K (.bptr p (c+j*(T.ti e).size))
    |_=>False
 |_=>T.sl t λ_ ti=>match x with
 | .ro sz es=>chk (Nat.beq sz ti.size) <| ∃(n:Nat) (cs:List AV),i=n/\es[n]? =some cs/\K (.rp cs)
 | .own p off len=>match G p with
   | .row _ _ sz _=>chk (Nat.beq sz ti.size) <| ∃n:Nat,i=n/\n<len/\K (.ptr p (off+n) 0)
   |_=>False
 |_=>False
def aXr (ti:TI) (G:Nat->Ob) (x:AV) (K:AV->Prop):Prop:=
 match x with
 | .rp cs=>ldc ti cs K
 | .bptr p c=>match G p with
   | .box _ cs=>ldc ti (cs.drop c) K
   |_=>False
 | .ptr p i c=>match G p with
   | .row _ _ _ es=>∃cs,es[i]? =some cs/\ldc ti (cs.drop c) K
   |_=>False
 |_=>False
def aSe (ti:TI) (G:Nat->Ob) (x y:AV) (K:List (Nat×Ob)->Prop):Prop:=
 match x with
 | .bptr p c=>match G p with
   | .box t cs=>chk (bTa ti.size y && Nat.ble (c+ti.size) cs.length) <| K [(p,.box t (aSi cs c (cells y)))]
   |_=>False
 | .ptr p i c=>match G p with
   | .row false e sz es=>chk (bTa ti.size y && !((aG1 (cells y)).any (Nat.beq p))) <| chk (Nat.ble (c+ti.size) sz) <| ∃cs,es[i]? =some cs/\K (bIj G (aG1 (cells y))++[(p,.row false e sz (es.set i (aSi cs c ((cells y).map (aGp G)))))])
   |_=>False
 |_=>False
def aJu (T:Tab) (t:Nat) (G:Nat->Ob) (n:Nat) (x y:AV) (K:AV->List (Nat×Ob)->Prop):Prop:=
 T.sl t λe ti=>match aDv G ti.size y with
 | .ro sz new=>chk (Nat.beq sz ti.size && Nat.blt 0 ti.size && Nat.blt 0 ti.bytes) <| match x with
   | .nils=>new.length*ti.bytes<=140737488355328/\new≠[]/\K (.own n 0 new.length) [(n,.row false e ti.size new)]
   | .own p 0 len=>match G p with
     | .row false e' sz' es=>chk (Nat.beq e' e && Nat.beq sz' ti.size) <| len<=es.length/\(len+new.length)*ti.bytes<=140737488355328/\
        ∃r,r=es.take len++new/\K (.own n 0 r.length) [(p,.gone),(n,.row false e ti.size r)]
     |_=>False
   |_=>False
 |_=>False
def bA0 (T:Tab) (t:Nat) (G:Nat->Ob) (x y:AV) (K:AV->List (Nat×Ob)->Prop):Prop:=
 T.sl t λ_ ti=>match aDv G ti.size y with
 | .ro sz new=>chk (Nat.beq sz 1 && Nat.beq ti.size 1 && Nat.blt 0 new.length) <| match x with
   | .own p off len=>match G p with
     | .row false e' sz' es=>chk (Nat.beq sz' 1) <| ∃m:Nat,m=min new.length len/\off+m<=es.length/\∃r,r=es.take off++new.take m++es.drop (off+m)/\K (.int .i64 m) [(p,.row false e' 1 r)]
     |_=>False
   |_=>False
 |_=>False
def bX1 (ti:TI) (G:Nat->Ob) (x:AV) (K:AV->Prop):Prop:=
 match ti.k with
 | .str=>match x with
   | .str s=>K (.int .i64 s.size)
   |_=>False
 | .slice _=>match x with
   | .ro _ es=>K (.int .i64 es.length)
   | .nils=>K (.int .i64 0)
   | .own p _ len=>chk (aLc G p) (K (.int .i64 len))
   |_=>False
 |_=>False
def aEz:List (ByteArray×AV)->ByteArray->Option AV
 |[],_=>none
 |(k,v)::r,x=>if x=k then some v else aEz r x
def aXw:List (ByteArray×AV)->ByteArray->AV->List (ByteArray×AV)
 |[],x,v=>[(x,v)]
 |(k,w)::r,x,v=>if x=k then (x,v)::r else (k,w)::aXw r x v
def sN (bs:List Int):ByteArray:=bs.foldl (λr n=>r.push (UInt8.ofNat n.toNat)) ByteArray.empty
def bEg (T:Tab) (s d:Nat) (G:Nat->Ob) (x:AV) (K:AV->Prop):Prop:=
 match (T.ti s).k with
 | .int _=>match (T.ti d).k,x with
   | .int k,.int _ n=>∃r,r=k.wrap n/\K (.int k r)
   |_,_=>False
 | .str=>match (T.ti d).k,x with
   | .str,.str s=>K (.str s)
   |_,_=>False
 | .slice e=>match (T.ti e).k with
   | .int .u8=>match (T.ti d).k with
     | .str=>match aDv G 1 x with
       | .ro 1 es=>∃bs:List Int,es=bs.map (λb=>[.int .u8 b])/\K (.str (sN bs))
       |_=>False
     |_=>False
   |_=>False
 |_=>False
def trP:List Nat->Nat->Nat->Nat
 |[],n,i=>n+i
 |p::_,_,0=>p
 |_::r,n,i+1=>trP r n i
mutual
def tr (ps:List Nat) (n:Nat):AV->AV
 | .own q off len=>.own (trP ps n q) off len
 | .ptr q i c=>.ptr (trP ps n q) i c
 | .bptr q c=>.bptr (trP ps n q) c
 | .map q=>.map (trP ps n q)
 | .agg cs=>.agg (trL ps n cs)
 | .tup cs=>.tup (trL ps n cs)
 | .fn f cs=>.fn f (trL ps n cs)
 | .iface t x=>.iface t (tr ps n x)
 |x=>x
def trL (ps:List Nat) (n:Nat):List AV->List AV
 |[]=>[]
 |x::xs=>tr ps n x::trL ps n xs
end
def bUd (ps:List Nat) (n:Nat):Ob->Ob
 | .box t cs=>.box t (trL ps n cs)
 | .kv l=>.kv (l.map λkx=>(kx.1,tr ps n kx.2))
 |o=>o
def trD (ps:List Nat) (n:Nat):Nat->List Ob->List (Nat×Ob)
 |_,[]=>[]
 |i,o::r=>(trP ps n i,bUd ps n o)::trD ps n (i+1) r
def aZ9 (G:Nat->Ob) (ps:List Nat):List Ob:=ps.map λp=>aTf ps (G p)
variable (P:Program) (gl:Gl) (T:Tab)
def aIs (E:Operand->AV) (G:Nat->Ob):List Operand->List Nat->List AV
 |[],_=>[]
 |x::xs,[]=>bPb G (T.ti 0) (E x)::aIs E G xs []
 |x::xs,t::ts=>bPb G (T.ti t) (E x)::aIs E G xs ts
def bUf (ps:List Nat) (G:Nat->Ob) (x:AV) (K:List (Nat×Ob)->Prop):Prop:=
 match ps with
 |[]=>K []
 |_=>match roQ x with
  |some false=>K []
  |some true=>chk (!(aLn G ps)) (K (bIj G ps))
  |none=>∃b,match b with
   |true=>chk (!(aLn G ps)) (K (bIj G ps))
   |false=>aIr x/\K []
def bPe (aS:List AV) (G:Nat->Ob) (n:Nat) (K:AV->List (Nat×Ob)->Prop) (x:AV):Prop:=
 bUf (aFd G aS) G x λd0=>match aEs n x with
  |(x',d)=>K x' (d0++d)
def bO1 (dr:Bool) (f:FuncId) (nas aS:List AV) (G:Nat->Ob) (n:Nat) (K:AV->List (Nat×Ob)->Prop):Prop:=
 match dr with
 |false=>∃R:AV->Prop,aAc P gl f nas R/\∀x,R x->bPe aS G n K x
 |true=>∃r,aAc P gl f nas (λx=>x=r)/\bPe aS G n K r
mutual
def aEu:AV->List Nat
 | .own p _ _=>[p]
 | .ptr p _ _=>[p]
 | .bptr p _=>[p]
 | .map p=>[p]
 | .agg cs=>aBi cs
 | .tup cs=>aBi cs
 | .fn _ cs=>aBi cs
 | .iface _ x=>aEu x
 |_=>[]
def aBi:List AV->List Nat
 |[]=>[]
 |x::xs=>aEu x++aBi xs
end
def aT0 (G:Nat->Ob):List Nat->List Nat
 |[]=>[]
 |p::r=>match G p with
  | .box _ cs=>p::(aBi cs++aT0 G r)
  |_=>p::aT0 G r
def aMb:List Nat->Bool
 |[]=>true
 |p::r=> !(r.any (Nat.beq p)) && aMb r
def bFf (G:Nat->Ob) (n:Nat) (l ps:List Nat):Bool:=ps.all λp=>Nat.blt p n && (l.any (Nat.beq p) && aLc G p)
def aUt (dr:Bool) (f:FuncId) (aS:List AV) (G:Nat->Ob) (n:Nat) (K:AV->List (Nat×Ob)->Prop):Prop:=
 ∃ps:List Nat,(aMb ps && bFf G n (aT0 G (aBi aS)) ps)=true/\match dr with
  |false=>∃R:AV->List Ob->Prop,aFp P gl f (bBd ps aS) (aZ9 G ps) R/\∀x h',R x h'->K (tr ps n x) (trD ps n 0 h')
  |true=>∃r h',aFp P gl f (bBd ps aS) (aZ9 G ps) (λx h=>x=r/\h=h')/\K (tr ps n r) (trD ps n 0 h')
def bAy (dr:Bool) (f:FuncId) (nas aS:List AV) (G:Nat->Ob) (n:Nat) (K:AV->List (Nat×Ob)->Prop):Prop:=
 bO1 P gl dr f nas aS G n K\/aUt P gl dr f aS G n K
def vop (dr:Bool) (o:Op) (E:Operand->AV) (G:Nat->Ob) (n:Nat) (K:AV->List (Nat×Ob)->Prop):Prop:=
 match o with
 | .move x| .assign x=>K (E x) []
 | .pick c a b=>match E c with
   | .bool t=>match t with
     |true=>K (E a) []
     |false=>K (E b) []
   |_=>False
 | .binOp op t x y _=>cA6 dr op (isc x || isc y) (T.ti t) (E x) (E y) λr=>K r []
 | .unOp .not _ x=>match E x with
   | .bool b=>K (.bool (!b)) []
   |_=>False
 | .unOp .neg _ x=>match E x with
   | .int k m=>∃r,r=k.wrap (0 - m)/\K (.int k r) []
   |_=>False
 | .convert s d x=>bEg T s d G (E x) λr=>K r []
 | .alloc t=>match (T.ti t).k with
   | .bad=>False
   |_=>K (.bptr n 0) [(n,.box t (T.ti t).zero)]
 | .box t x=>chk (bTa (T.ti t).size (E x)) <| K (.bptr n 0) [(n,.box t (cells (E x)))]
 | .build t ps=>match (T.ti t).k with
   | .strc fs=>chk (aW5 fs (T.ti t).zero.length (ps.toList.map λp=>(p.1,E p.2))) <| K (.agg (aOu fs (T.ti t).zero (ps.toList.map λp=>(p.1,E p.2)))) []
   |_=>False
 | .buildSlice t len ps=>T.sl t λe ti=>match aD4 G ti 0 (ps.toList.map λp=>(p.1,E p.2)) with
   |some es=>chk (Nat.beq es.length len && Nat.ble (len*ti.size) 16777216 && Nat.blt 0 ti.size) <| K (.own n 0 len) (bIj G (aKt (ps.toList.map λp=>(p.1,E p.2)))++[(n,.row false e ti.size es)])
   |none=>False
 | .load t a=>aXr (T.ti t) G (E a) λr=>K r []
 | .store t a v=>aSe (T.ti t) G (E a) (E v) λd=>K .u d
 | .nilCheck x=>match E x with
   | .bptr p c=>chk (aLc G p) (K (.bptr p c) [])
   | .rp cs=>K (.rp cs) []
   |_=>False
 | .makeInterface t x=>match (T.ti t).k with
   | .bad=>False
   | .iface=>False
   |_=>K (.iface t (E x)) []
 | .makeSlice t l c=>match E l,E c with
   | .int .i64 l,.int .i64 c=>T.sl t λe ti=>chk (Nat.blt 0 ti.size) <| 0<=l/\l<=c/\c<=1073741824/\c*ti.bytes<=140737488355328/\∃m:Nat,l=m/\
      K (.own n 0 m) [(n,.row false e ti.size (List.replicate m ti.zero))]
   |_,_=>False
 | .slice t x lo hi none=>aSd T t G (E x) (lo.map E) (hi.map E) λr=>K r []
 | .fieldAddr t x f=>match (T.ti t).k with
   | .strc fs=>match fs[f]? with
     |some (off,k,_)=>chk (Nat.blt 0 k) <| match E x with
      | .rp cs=>chk (Nat.ble off cs.length) <| K (.rp (cs.drop off)) []
      | .bptr p c=>chk (aLc G p) (K (.bptr p (c+off)) [])
      | .ptr p i c=>chk (aLc G p) (K (.ptr p i (c+off)) [])
      |_=>False
     |none=>False
   |_=>False
 | .field t x f=>match (T.ti t).k with
   | .strc fs=>match fs[f]? with
     |some (off,k,ag)=>match E x with
      | .agg cs=>chk (Nat.ble (off+k) cs.length) <| (match ag with|true=>K (.agg ((cs.drop off).take k)) []|false=>match cs.drop off with|c::_=>K c []|[]=>False)
      |_=>False
     |none=>False
   |_=>False
 | .indexAddr t x i=>match E i with
   | .int _ k=>aSc T t G (E x) k λr=>K r []
   |_=>False
 | .index t x i=>match E i with
   | .int _ m=>match (T.ti t).k,E x with
     | .str,.str s=>∃(k:Nat) (c:UInt8),m=k/\s.toList[k]? =some c/\K (.int .u8 c.toNat) []
     |_,_=>False
   |_=>False
 | .extract x i=>match E x with
   | .tup cs=>match cs[i]? with
     |some c=>K c []
     |none=>False
   |_=>False
 | .makeFunc (.func f) fi cap=>match fi.toList with
   |[]=>K (.fn f (cap.toList.map E)) []
   |_=>False
 | .makeMap _ none=>K (.map n) [(n,.kv [])]
 | .range t x=>match (T.ti t).k with
   | .str=>match E x with
     | .str s=>K (.bptr n 0) [(n,.iter s 0)]
     |_=>False
   |_=>False
 | .next x true=>match E x with
   | .bptr p 0=>match G p with
     | .iter s k=>match Nat.blt k s.size with
       |true=>∃c m,(c,m)=Utf8.decode s k/\K (.tup [.bool true,.int .i64 k,.int .i32 c]) [(p,.iter s (k+m))]
       |false=>K (.tup [.bool false]) []
     |_=>False
   |_=>False
 | .lookup t x i ok=>match (T.ti t).k with
   | .map e=>match (T.ti e).k with
     | .bad=>False
     |_=>match E x,E i with
      | .map p,.str k=>match G p with
        | .kv l=>match ok with
          |false=>∃r,r=(aEz l k).getD (cav (T.ti e).zv)/\K r []
          |true=>∃r b,r=(aEz l k).getD (cav (T.ti e).zv)/\b=(aEz l k).isSome/\K (.tup [r,.bool b]) []
        |_=>False
      |_,_=>False
   |_=>False
 | .mapUpdate t m k v| .insert t m k v=>match (T.ti t).k with
   | .map _=>match E m,E k with
     | .map p,.str k=>match G p with
       | .kv l=>∃r,r=aXw l k (E v)/\K .u [(p,.kv r)]
       |_=>False
     |_,_=>False
   |_=>False
 | .call { callee:=.builtin .len,args,argTypes}=>match args.toList,argTypes.toList with
   |[x],[t]=>bX1 (T.ti t) G (E x) λr=>K r []
   |_,_=>False
 | .call { callee:=.builtin .append,args,argTypes}=>match args.toList,argTypes.toList with
   |[x,y],[t,t']=>t=t'/\aJu T t G n (E x) (E y) K
   |_,_=>False
 | .call { callee:=.builtin .copy,args,argTypes}=>match args.toList,argTypes.toList with
   |[x,y],[t,_]=>bA0 T t G (E x) (E y) K
   |_,_=>False
 | .call { callee:=.builtin .min,args,argTypes:=_}=>match args.toList with
   |[x,y]=>match E x,E y with
    | .int k a,.int k' b=>k=k'/\∃r,r=(if b<a then b else a)/\K (.int k r) []
    |_,_=>False
   |_=>False
 | .call { callee:=.builtin .max,args,argTypes:=_}=>match args.toList with
   |[x,y]=>match E x,E y with
    | .int k a,.int k' b=>k=k'/\∃r,r=(if a<b then b else a)/\K (.int k r) []
    |_,_=>False
   |_=>False
 | .call { callee:=.value (.func f),args,argTypes}=>bAy P gl dr f (aIs T E G args.toList argTypes.toList) (args.toList.map E) G n K
 | .call { callee:=.value (.tmp t),args,argTypes}=>match E (.tmp t) with
   | .fn f cap=>bAy P gl dr f (aIs T E G args.toList argTypes.toList++aMc G [] cap) (args.toList.map E++cap) G n K
   |_=>False
 |_=>False
inductive Sft where
 |live
 |ld (ti:TI) (c:Nat) (v:AV)
def cN5 (T:Tab) (E:Operand->AV) (o:Op) (v:AV):Option (Nat×Sft):=
 match o with
 | .nilCheck x=>match E x with
   | .bptr p _=>some (p,.live)
   |_=>none
 | .fieldAddr _ x _=>match E x with
   | .bptr p _=>some (p,.live)
   |_=>none
 | .load t x=>match E x with
   | .bptr p c=>some (p,.ld (T.ti t) c v)
   |_=>none
 |_=>none
def cXb (ob:Ob):Bool:=match ob with| .dead=>false| .gone=>false|_=>true
def cOp (s:Sft) (ob:Ob):Prop:=match s with
 | .live=>cXb ob=true
 | .ld ti c v=>match ob with
   | .box _ cs=>ldc ti (cs.drop c) λv'=>v'=v
   |_=>False
def aIt (E:Operand->AV) (G:Nat->Ob) (o:Op):List Nat:=
 match o with
 | .move _=>[]
 | .assign _=>[]
 | .pick _ _ _=>[]
 |o=>aT0 G (aBi (o.operands.toList.map E))
def cOl (T:Tab) (E:Operand->AV) (G:Nat->Ob) (o:Op) (v:AV):List Nat:=match cN5 T E o v with
 |some _=>[]
 |none=>aIt E G o
def St.upd (st:St) (dst:Option Tmp) (v:AV) (d:List (Nat×Ob)):St:=St.put ⟨st.t,aDf st.h d⟩ dst v
def aN4 (ops:Array Oper) (o:Oper) (st:St):Option Bool:=
 match o.guard with
 |none=>some true
 |some (i,b)=>match (ops[i]?).bind (·.dst) with
  |none=>none
  |some d=>match st.get d with
   | .bool c=>some (c == b)
   | .u=>some false
   |_=>none
def vgd (ops:Array Oper) (o:Oper) (st:St) (X Y:Prop):Prop:=
 match o.guard with
 |none=>X
 |some (i,b)=>match (ops[i]?).bind (·.dst) with
  |none=>False
  |some d=>match st.get d with
   | .bool c=>match b with
     |true=>match c with|true=>X|false=>Y
     |false=>match c with|true=>Y|false=>X
   | .u=>Y
   |_=>False
theorem bA1 {ops:Array Oper}{o:Oper}{st:St}{X Y:Prop}(h:vgd ops o st X Y):(aN4 ops o st=some true/\X)\/(aN4 ops o st=some false/\Y):=by
 unfold vgd at h
 unfold aN4
 generalize o.guard=g at h ⊢
 cases g with
 |none=>exact .inl ⟨rfl,h⟩
 |some q=>
  obtain ⟨i,b⟩:=q
  dsimp only at h ⊢
  generalize (ops[i]?).bind (·.dst)=d at h ⊢
  cases d with
  |none=>exact h.elim
  |some d=>
   dsimp only at h ⊢
   generalize st.get d=x at h ⊢
   cases x with
   |bool c=>cases b<;>cases c<;>first|exact .inl ⟨rfl,h⟩|exact .inr ⟨rfl,h⟩
   |u=>exact .inr ⟨rfl,h⟩
   |_=>exact h.elim
def fV (x:AV) (K:AV->Prop):Prop:=
 match x with
 | .j=>K .j
 | .u=>K .u
 | .int k n=>K (.int k n)
 | .bool b=>K (.bool b)
 | .str s=>K (.str s)
 | .agg cs=>K (.agg cs)
 | .tup cs=>K (.tup cs)
 | .nils=>K .nils
 | .ro sz es=>K (.ro sz es)
 | .fr e sz es=>K (.fr e sz es)
 | .own p off len=>K (.own p off len)
 | .rp cs=>K (.rp cs)
 | .bptr p c=>K (.bptr p c)
 | .ptr p i c=>K (.ptr p i c)
 | .fn f cap=>K (.fn f cap)
 | .map p=>K (.map p)
 | .iface t x=>K (.iface t x)
 | .nili=>K .nili
def fN:Nat->(Nat->Prop)->Prop
 |0,K=>K 0
 |n+1,K=>fN n λm=>K (m+1)
def fNs:List Nat->(List Nat->Prop)->Prop
 |[],K=>K []
 |p::r,K=>fN p λp=>fNs r λr=>K (p::r)
def fOb (o:Ob) (K:Ob->Prop):Prop:=
 match o with
 | .dead=>K .dead
 | .gone=>K .gone
 | .box t cs=>K (.box t cs)
 | .row fz e sz es=>K (.row fz e sz es)
 | .kv l=>K (.kv l)
 | .iter s k=>K (.iter s k)
def fD:List (Nat×Ob)->(List (Nat×Ob)->Prop)->Prop
 |[],K=>K []
 |(p,o)::r,K=>fN p λp=>fOb o λo=>fD r λr=>K ((p,o)::r)
def fL {α:Type}:List α->(List α->Prop)->Prop
 |[],K=>K []
 |x::r,K=>fL r λr=>K (x::r)
def fS (s:Option (Nat×Sft)) (K:Option (Nat×Sft)->Prop):Prop:=
 match s with
 |none=>K none
 |some (p,.live)=>fN p λp=>K (some (p,.live))
 |some (p,.ld ti c v)=>fN p λp=>fN c λc=>K (some (p,.ld ti c v))
theorem bZ7 (x:AV) (K:AV->Prop):fV x K=K x:=by cases x<;>rfl
theorem bM2:∀(n:Nat) (K:Nat->Prop),fN n K=K n
 |0,K=>rfl
 |n+1,K=>bM2 n _
theorem cYh (s:Option (Nat×Sft)) (K:Option (Nat×Sft)->Prop):fS s K=K s:=by
 cases s with
 |none=>rfl
 |some x=>obtain ⟨p,s⟩:=x;cases s<;>simp only [fS,bM2]
theorem bT2:∀(l:List Nat) (K:List Nat->Prop),fNs l K=K l
 |[],K=>rfl
 |p::r,K=>by simp only [fNs,bM2,bT2 r]
theorem bZ6 (o:Ob) (K:Ob->Prop):fOb o K=K o:=by cases o<;>rfl
theorem bWo:∀(l:List (Nat×Ob)) (K:List (Nat×Ob)->Prop),fD l K=K l
 |[],K=>rfl
 |(p,o)::r,K=>by simp only [fD,bM2,bZ6,bWo r]
theorem bZ5 {α:Type}:∀(l:List α) (K:List α->Prop),fL l K=K l
 |[],K=>rfl
 |x::r,K=>by simp only [fL,bZ5 r]
def cC1 (ops:Array Oper) (o:Oper) (st:St) (C:St->Prop):Prop:=vgd ops o st
 (fN st.h.length λn=>vop P gl T false o.op (st.ev gl) (aAd st.h) n λv d=>fV v λv=>fD d λd=>C (st.upd o.dst v d))
 (C (st.put o.dst .u))
def aXs (ops:Array Oper) (K:St->Prop):List Oper->St->Prop
 |[],st=>K st
 |o::r,st=>cC1 P gl T ops o st (aXs ops K r)
structure Note where
 rd:List Nat
 wr:List Nat
 sf:Option (Nat×Sft)
def sfp:Option (Nat×Sft)->List Nat
 |none=>[]
 |some (p,_)=>[p]
def bJm:List Nat->List Nat->Bool
 |[],_=>true
 |p::r,l=> !(l.any (Nat.beq p)) && bJm r l
def clear (b:Nat) (m:Note):Nat->List Note->Bool
 |_,[]=>true
 |i,x::r=>(b.testBit i || (bJm x.wr m.rd && bJm x.wr m.wr && bJm x.rd m.wr && bJm x.wr (sfp m.sf))) && clear b m (i+1) r
def cUc (p:Nat) (s:Sft) (K:Prop):List (Nat×Ob)->Prop
 |[]=>K
 |(q,ob)::d=>match Nat.beq q p with
  |true=>match s with
   | .live=>chk (cXb ob) (cUc p s K d)
   | .ld ti c v=>match ob with
     | .box _ cs=>ldc ti (cs.drop c) λv'=>v'=v/\cUc p s K d
     |_=>False
  |false=>cUc p s K d
def cOr (b:Nat) (d:List (Nat×Ob)) (K:Prop):Nat->List Note->Prop
 |_,[]=>K
 |i,x::r=>match b.testBit i with
  |true=>cOr b d K (i+1) r
  |false=>match x.sf with
   |none=>cOr b d K (i+1) r
   |some (p,s)=>cUc p s (cOr b d K (i+1) r) d
def bRb (ops:Array Oper) (bs:List Nat):Bool:=(List.range ops.size).all λj=>match ops[j]? with
 |some o=>Nat.beq (bs.getD j 0) (o.after.toList.foldl (λs e=>match Region.binds .any e with|true=>s ||| 2 ^ e.on ||| bs.getD e.on 0|false=>s) 0)
 |none=>true
def bEj (ops:Array Oper) (bs:List Nat) (K:St->Prop):List Oper->List Note->St->Prop
 |[],_,st=>K st
 |o::r,ns,st=>vgd ops o st
  (vop P gl T true o.op (st.ev gl) (aAd st.h) st.h.length λv d=>
    chk (clear (bs.getD ns.length 0) ⟨cOl T (st.ev gl) (aAd st.h) o.op v,d.map (·.1),cN5 T (st.ev gl) o.op v⟩ 0 ns) <| cOr (bs.getD ns.length 0) d
     (bEj ops bs K r (ns++[⟨cOl T (st.ev gl) (aAd st.h) o.op v,d.map (·.1),cN5 T (st.ev gl) o.op v⟩]) (st.upd o.dst v d)) 0 ns)
  (bEj ops bs K r (ns++[⟨[],[],none⟩]) (st.put o.dst .u))
def cC2 (ops:Array Oper) (bs:List Nat) (o:Oper) (i:Nat) (ns:List Note) (st:St) (C:List Note->St->Prop):Prop:=vgd ops o st
 (fN st.h.length λn=>vop P gl T true o.op (st.ev gl) (aAd st.h) n λv d=>fV v λv=>fD d λd=>
   fS (cN5 T (st.ev gl) o.op v) λsf=>fNs (match sf with|some _=>[]|none=>aIt (st.ev gl) (aAd st.h) o.op) λrd=>fNs (d.map (·.1)) λwr=>
   chk (clear (bs.getD i 0) ⟨rd,wr,sf⟩ 0 ns) <| cOr (bs.getD i 0) d
    (fL (ns++[⟨rd,wr,sf⟩]) λns=>C ns (st.upd o.dst v d)) 0 ns)
 (fL (ns++[⟨[],[],none⟩]) λns=>C ns (st.put o.dst .u))
def bGp (ops:Array Oper) (bs:List Nat) (K:St->Prop):List Oper->Nat->List Note->St->Prop
 |[],_,_,st=>K st
 |o::r,i,ns,st=>cC2 P gl T ops bs o i ns st (bGp ops bs K r (i+1))
inductive Ex where
 |nrm|ex (id:Nat)|ret
 deriving DecidableEq
def bT1 (K:St->Prop) (Q:Ex->St->Prop):Ex->St->Prop
 | .nrm,st=>K st
 |e,st=>Q e st
def bM0 (id:Nat) (Q:Ex->St->Prop):Ex->St->Prop
 | .ex k,st=>match Nat.beq k id with
   |true=>Q .nrm st
   |false=>Q (.ex k) st
 |e,st=>Q e st
def bAn:Nat->List Nat->Nat->Bool
 |0,_,_=>true
 |k+1,p::ps,i=>Nat.beq p i && bAn k ps (i+1)
 |_+1,[],_=>false
def vwp (np:Nat):Code->(Ex->St->Prop)->St->Prop
 | .skip,Q,st=>Q .nrm st
 | .region _ ops false,Q,st=>aXs P gl T ops (Q .nrm) ops.toList st
 | .region _ ops true,Q,st=>Region.lexB .any ops=true/\∃bs:List Nat,bRb ops bs=true/\bGp P gl T ops bs (Q .nrm) ops.toList 0 [] st
 | .seq a b,Q,st=>vwp np a (bT1 (λst'=>vwp np b Q st') Q) st
 | .cond c a b,Q,st=>match st.ev gl c with
   | .bool t=>match t with
     |true=>vwp np a Q st
     |false=>vwp np b Q st
   |_=>False
 | .block id c,Q,st=>vwp np c (bM0 id Q) st
 | .loop c,Q,st=>∃(live ps:List Nat) (I:Nat->St->Prop),(aMb ps && bAn np ps 0)=true/\(∃ m,I m (st.keep live ps))/\
    ∀m st',I m st'->vwp np c (bT1 (λs=>∃ps' m',(aMb ps' && bAn np ps' 0)=true/\m'<m/\I m' (s.keep live ps')) Q) st'
 | .exit id,Q,st=>Q (.ex id) st
 | .ret,Q,st=>Q .ret st
 |_,_,_=>False
end Go.V
namespace Go.V
open Go.RowKit
def kok (P:Program):TK->Option TypeDesc->Bool
 | .bad,_=>true
 | .int k,some (.int k')=>k == k'
 | .bool,some .bool=>true
 | .str,some .string=>true
 | .slice e,some (.slice e')=>Nat.beq e e'
 | .ptr e,some (.pointer e')=>Nat.beq e e'
 | .strc fs,some (.struct fl)=>(fl.toList.map λf=>(f.offset,((P.info? f.type).map (·.size)).getD 0,match P.underlying f.type with|some (.struct _)=>true|some (.array _ _)=>true|_=>false)) == fs && fl.toList.all (λf=>(P.info? f.type).isSome && (P.underlying f.type).isSome)
 | .arr n e,some (.array n' e')=>Nat.beq n n' && Nat.beq e e'
 | .map e,some (.map k e')=>Nat.beq e e' && (match P.underlying k with|some .string=>true|_=>false)
 | .fn,some (.func ..)=>true
 | .iface,some (.interface _)=>true
 | .tup,some (.tuple _)=>true
 |_,_=>false
structure TFact (P:Program) (t:Nat) (ti:TI):Prop where
 info:(P.info? t).map (λi=>(i.zero,i.size,i.bytes))=some (some ti.zv,ti.size,ti.bytes)
 kind:kok P ti.k (P.underlying t)=true
 zero:(Nat.beq ti.zv.cells.size ti.size && ti.zv.cells.all (·.oneCell'))=true
def TOK (P:Program):Tab->Prop
 |[]=>True
 |(t,ti)::r=>TFact P t ti/\TOK P r
theorem TOK.get {P:Program}{T:Tab}(h:TOK P T){t:Nat}(hk:(T.ti t).k≠ .bad):TFact P t (T.ti t):=by
 induction T with
 |nil=>exact absurd rfl hk
 |cons x r ih=>
  obtain ⟨k,ti⟩:=x
  unfold Tab.ti lk at hk ⊢
  cases hb:Nat.beq k t with
  |true=>
   simp only [hb] at hk ⊢
   rw [<- Nat.eq_of_beq_eq_true hb];exact h.1
  |false=>
   simp only [hb] at hk ⊢
   exact ih h.2 hk
theorem aBy {b:Bool}{K:Prop}:chk b K↔b=true/\K:=by cases b<;>simp [chk]
theorem bMp (S:Nat->Prop) (H:Hp) (w:World) (v:Value):aAi S H w (cav v) v:=by
 unfold cav
 split<;>simp [aAi]
theorem bSc {S w gl} (h:bJk S w gl) (g:Nat) (H:Hp):aAi S H w (bM9 gl g) (.pointer (some ⟨g,0,none⟩)):=by
 induction gl with
 |nil=>simp [bM9,aAi]
 |cons x r ih=>
  obtain ⟨k,cs⟩:=x
  unfold bM9
  cases hb:Nat.beq k g with
  |true=>
   have:=(h k cs (by simp)).1
   rw [Nat.eq_of_beq_eq_true hb] at this
   simpa [aAi] using this
  |false=>exact ih λg' cs' hm=>h g' cs' (List.mem_cons_of_mem _ hm)
structure Wd (gl:Gl) (B:Base) (S:Nat->Prop) (H:Hp) (w:World):Prop where
 ok:HeapOK S B H w
 kept:Kept B w
 gl:bJk S w gl
 bs:∀b,S b->B.S0 b\/B.w0.heap.size<=b\/B.M b
 sup:∀b,B.S0 b->S b
structure Opn (gl:Gl) (B:Base) (S:Nat->Prop) (H:Hp) (w:World) (E:Operand->AV) (a:Act):Prop where
 wd:Wd gl B S H w
 ev:∀x,aAi S H w (E x) (a.eval x)
theorem Pin.later {B S H w S' H' w'} (h:Pin B H) (L:Later S H w S' H' w'):Pin B H':=λi q hi=>by
 obtain ⟨h1,h2⟩:=h i q hi
 obtain ⟨h3,h4⟩:=L.ob i h1
 refine ⟨h3,λs hs=>?_⟩
 obtain ⟨e1,e2,e3⟩:=h4 s hs
 rw [e2,e3];exact h2 s e1
structure Rel (gl:Gl) (B:Base) (S:Nat->Prop) (H:Hp) (st:St) (a:Act) (w:World):Prop where
 hh:H.h=st.h
 wd:Wd gl B S H w
 tm:∀t,aAi S H w (st.get t) (a.tmps.getD t undef)
 pin:Pin B H
theorem Rel.opn {gl B S H st a w} (hr:Rel gl B S H st a w):Opn gl B S H w (st.ev gl) a:=by
 refine ⟨hr.wd,λx=>?_⟩
 cases x with
 |tmp t=>exact hr.tm t
 |const v=>exact bMp S H w v
 |global g=>exact bSc hr.wd.gl g H
 |func f=>exact ⟨[],rfl,rfl⟩
structure Eff (gl:Gl) (B:Base) (S:Nat->Prop) (H:Hp) (w:World) (S':Nat->Prop) (H':Hp) (w':World) (d:List (Nat×Ob)):Prop where
 hh:H'.h=aDf H.h d
 wd:Wd gl B S' H' w'
 later:Later S H w S' H' w'
theorem Later.refl (S:Nat->Prop) (H:Hp) (w:World):Later S H w S H w:=
 ⟨λb hb _=>⟨hb,rfl⟩,Nat.le_refl _,λp h=>⟨h,λsz hs=>⟨hs,rfl,rfl⟩⟩⟩
theorem Rel.upd {gl B S H st a w S' H' w' d} (hr:Rel gl B S H st a w) (he:Eff gl B S H w S' H' w' d){dst:Option Tmp}(hd:∀d,dst=some d->d<a.tmps.size){x:AV}{u:Value}
 (h:aAi S' H' w' x u):Rel gl B S' H' (st.upd dst x d) (a.put dst u) w':=by
 have hr':Rel gl B S' H' ⟨st.t,aDf st.h d⟩ a w':=⟨by rw [he.hh,hr.hh],he.wd,λt=>aAi.later he.later _ _ (hr.tm t),hr.pin.later he.later⟩
 cases dst with
 |none=>exact hr'
 |some d'=>
  refine ⟨hr'.hh,hr'.wd,λt=>?_,hr'.pin⟩
  show aAi S' H' w' (lk .j ((d',x)::st.t) t) ((a.tmps.setIfInBounds d' u).getD t undef)
  unfold lk
  cases hb:Nat.beq d' t with
  |true=>
   have e:=Nat.eq_of_beq_eq_true hb
   subst e
   have hlt:=hd d' rfl
   simp only
   have:(a.tmps.setIfInBounds d' u).getD d' undef=u:=by
    simp [Array.getD,hlt]
   rw [this];exact h
  |false=>
   have hne:d'≠t:=λe=>by subst e;simp at hb
   have:(a.tmps.setIfInBounds d' u).getD t undef=a.tmps.getD t undef:=by
    simp [Array.getD_eq_getD_getElem?,Array.getElem?_setIfInBounds_ne hne]
   simp only
   rw [this];exact hr'.tm t
theorem Eff.refl {gl B S H w} (h:Wd gl B S H w):Eff gl B S H w S H w []:=⟨rfl,h,Later.refl S H w⟩
theorem aAt.length {S H w}:∀{xs:List AV}{vs:List Value},aAt S H w xs vs->vs.length=xs.length
 |[],vs,h=>by simp only [aAt] at h;simp [h]
 |x::xs,vs,h=>by
  simp only [aAt] at h
  obtain ⟨v,r,e,_,hr⟩:=h
  simp [e,aAt.length hr]
theorem aAr.length {S w}:∀{xs:List (List AV)}{vs:List (List Value)},aAr S w xs vs->vs.length=xs.length
 |[],vs,h=>by simp only [aAr] at h;simp [h]
 |x::xs,vs,h=>by
  simp only [aAr] at h
  obtain ⟨v,r,e,_,hr⟩:=h
  simp [e,aAr.length hr]
theorem aAt.get {S H w}:∀{xs:List AV}{vs:List Value},aAt S H w xs vs->∀{i:Nat}{x:AV},xs[i]? =some x->∃v,vs[i]? =some v/\aAi S H w x v
 |[],_,_,_,_,hi=>by simp at hi
 |y::xs,vs,h,i,x,hi=>by
  simp only [aAt] at h
  obtain ⟨v,r,e,hv,hr⟩:=h
  subst e
  cases i with
  |zero=>simp at hi;subst hi;exact ⟨v,rfl,hv⟩
  |succ i=>simpa using aAt.get hr (by simpa using hi)
theorem aAr.get {S w}:∀{xs:List (List AV)}{vs:List (List Value)},aAr S w xs vs->∀{i:Nat}{x:List AV},xs[i]? =some x->∃v,vs[i]? =some v/\aAt S H0 w x v
 |[],_,_,_,_,hi=>by simp at hi
 |y::xs,vs,h,i,x,hi=>by
  simp only [aAr] at h
  obtain ⟨v,r,e,hv,hr⟩:=h
  subst e
  cases i with
  |zero=>simp at hi;subst hi;exact ⟨v,rfl,hv⟩
  |succ i=>simpa using aAr.get hr (by simpa using hi)
theorem aAt.drop {S H w}:∀{xs:List AV}{vs:List Value}(n:Nat),aAt S H w xs vs->aAt S H w (xs.drop n) (vs.drop n)
 |xs,vs,0,h=>by simpa using h
 |[],vs,n+1,h=>by simp only [aAt] at h;subst h;simp [aAt]
 |x::xs,vs,n+1,h=>by
  simp only [aAt] at h
  obtain ⟨v,r,e,_,hr⟩:=h
  subst e;simpa using aAt.drop n hr
theorem aAt.take {S H w}:∀{xs:List AV}{vs:List Value}(n:Nat),aAt S H w xs vs->aAt S H w (xs.take n) (vs.take n)
 |xs,vs,0,h=>by simp [aAt]
 |[],vs,n+1,h=>by simp only [aAt] at h;subst h;simp [aAt]
 |x::xs,vs,n+1,h=>by
  simp only [aAt] at h
  obtain ⟨v,r,e,hv,hr⟩:=h
  subst e
  simp only [List.take_succ_cons,aAt]
  exact ⟨v,_,rfl,hv,aAt.take n hr⟩
theorem aAr.drop {S w}:∀{xs:List (List AV)}{vs:List (List Value)}(n:Nat),aAr S w xs vs->aAr S w (xs.drop n) (vs.drop n)
 |xs,vs,0,h=>by simpa using h
 |[],vs,n+1,h=>by simp only [aAr] at h;subst h;simp [aAr]
 |x::xs,vs,n+1,h=>by
  simp only [aAr] at h
  obtain ⟨v,r,e,_,hr⟩:=h
  subst e;simpa using aAr.drop n hr
theorem aAr.take {S w}:∀{xs:List (List AV)}{vs:List (List Value)}(n:Nat),aAr S w xs vs->aAr S w (xs.take n) (vs.take n)
 |xs,vs,0,h=>by simp [aAr]
 |[],vs,n+1,h=>by simp only [aAr] at h;subst h;simp [aAr]
 |x::xs,vs,n+1,h=>by
  simp only [aAr] at h
  obtain ⟨v,r,e,hv,hr⟩:=h
  subst e
  simp only [List.take_succ_cons,aAr]
  exact ⟨v,_,rfl,hv,aAr.take n hr⟩
theorem aAr.append {S w}:∀{xs ys:List (List AV)}{vs us:List (List Value)},aAr S w xs vs->aAr S w ys us->aAr S w (xs++ys) (vs++us)
 |[],ys,vs,us,h,k=>by simp only [aAr] at h;subst h;simpa using k
 |x::xs,ys,vs,us,h,k=>by
  simp only [aAr] at h
  obtain ⟨v,r,e,hv,hr⟩:=h
  subst e
  simp only [List.cons_append,aAr]
  exact ⟨v,_,rfl,hv,aAr.append hr k⟩
theorem aAt.append {S H w}:∀{xs ys:List AV}{vs us:List Value},aAt S H w xs vs->aAt S H w ys us->aAt S H w (xs++ys) (vs++us)
 |[],ys,vs,us,h,k=>by simp only [aAt] at h;subst h;simpa using k
 |x::xs,ys,vs,us,h,k=>by
  simp only [aAt] at h
  obtain ⟨v,r,e,hv,hr⟩:=h
  subst e
  simp only [List.cons_append,aAt]
  exact ⟨v,_,rfl,hv,aAt.append hr k⟩
theorem aAr.set {S w}:∀{xs:List (List AV)}{vs:List (List Value)},aAr S w xs vs->∀(i:Nat){y:List AV}{u:List Value},aAt S H0 w y u->aAr S w (xs.set i y) (vs.set i u)
 |[],_,h,_,_,_,_=>by simp only [aAr] at h;subst h;simp [aAr]
 |x::xs,vs,h,i,y,u,k=>by
  simp only [aAr] at h
  obtain ⟨v,r,e,hv,hr⟩:=h
  subst e
  cases i with
  |zero=>simp only [List.set_cons_zero,aAr];exact ⟨u,r,rfl,k,hr⟩
  |succ i=>simp only [List.set_cons_succ,aAr];exact ⟨v,_,rfl,hv,aAr.set hr i k⟩
theorem aT8 (S:Nat->Prop) (H:Hp) (w:World):Later S H0 w S H w:=⟨λb hb _=>⟨hb,rfl⟩,Nat.le_refl _,λp hp=>absurd (aY0 p) hp⟩
theorem aAt.plain {S H w} {xs:List AV}{vs:List Value}(h:aAt S H0 w xs vs):aAt S H w xs vs:=aAt.later (aT8 S H w) xs vs h
theorem aAi.plain {S H w} {x:AV}{v:Value}(h:aAi S H0 w x v):aAi S H w x v:=aAi.later (aT8 S H w) x v h
end Go.V
namespace Go.V
open Go.RowKit
variable {P:Program}{gl:Gl}{T:Tab}
theorem bUh {o:Oper}{a:Act}{w w':World}{u:Value}{next:Act->World->Prop}{Q:Exit->Act->World->Prop}
 (h:(execOp a.eval o).run P w= .ok (.value u) w') (hn:next (a.put o.dst u) w'):o.wp P a w next Q:=by
 unfold Oper.wp;rw [h];exact hn
theorem bTj {o:Oper}{a:Act}{w w':World}{next:Act->World->Prop}{Q:Exit->Act->World->Prop}
 (h:(execOp a.eval o).run P w= .ok .skip w') (hn:next (a.put o.dst undef) w'):o.wp P a w next Q:=by
 unfold Oper.wp;rw [h];exact hn
def Ok1 (P:Program) (gl:Gl) (B:Base) (S:Nat->Prop) (H:Hp) (a:Act) (w:World) (o:Oper) (K:AV->List (Nat×Ob)->Prop):Prop:=
 ∀(next:Act->World->Prop) (Q:Exit->Act->World->Prop),
  (∀ x d u S' H' w',K x d->Eff gl B S H w S' H' w' d->aAi S' H' w' x u->next (a.put o.dst u) w')->o.wp P a w next Q
theorem aBr {B S H E a w} {o:Oper}{K:AV->List (Nat×Ob)->Prop}{x:AV}{u:Value}(hr:Opn gl B S H w E a)
 (h:(execOp a.eval o).run P w= .ok (.value u) w) (hk:K x []) (hx:aAi S H w x u):Ok1 P gl B S H a w o K:=
 λnext Q hn=>bUh h (hn x [] u S H w hk (Eff.refl hr.wd) hx)
theorem bTd {T:Tab}(hT:TOK P T){t:TypeId}(h:(T.ti t).k= .bool):P.underlying t=some .bool:=by
 have f:=(hT.get (t:=t) (by rw [h];simp)).kind
 rw [h] at f
 cases hu:P.underlying t with
 |none=>rw [hu] at f;cases f
 |some d=>rw [hu] at f;cases d<;>first|rfl|cases f
theorem bOy {T:Tab}(hT:TOK P T){t:TypeId}(h:(T.ti t).k= .iface):∃ms,P.underlying t=some (.interface ms):=by
 have f:=(hT.get (t:=t) (by rw [h];simp)).kind
 rw [h] at f
 cases hu:P.underlying t with
 |none=>rw [hu] at f;cases f
 |some d=>rw [hu] at f;cases d<;>first|exact ⟨_,rfl⟩|cases f
theorem aLf {T:Tab}(hT:TOK P T){t:TypeId}(h:(T.ti t).k= .str):P.underlying t=some .string:=by
 have f:=(hT.get (t:=t) (by rw [h];simp)).kind
 rw [h] at f
 cases hu:P.underlying t with
 |none=>rw [hu] at f;cases f
 |some d=>rw [hu] at f;cases d<;>first|rfl|cases f
theorem bEe {T:Tab}(hT:TOK P T){t:TypeId}{k:IntKind}(h:(T.ti t).k= .int k):P.underlying t=some (.int k):=by
 have f:=(hT.get (t:=t) (by rw [h];simp)).kind
 rw [h] at f
 cases hu:P.underlying t with
 |none=>rw [hu] at f;cases f
 |some d=>
  rw [hu] at f
  cases d<;>first|cases f|(simp [kok] at f;rw [f])
theorem aMo {T:Tab}(hT:TOK P T){t e:TypeId}(h:(T.ti t).k= .slice e):P.underlying t=some (.slice e):=by
 have f:=(hT.get (t:=t) (by rw [h];simp)).kind
 rw [h] at f
 cases hu:P.underlying t with
 |none=>rw [hu] at f;cases f
 |some d=>
  rw [hu] at f
  cases d<;>first|cases f|(simp [kok] at f;rw [f])
theorem aE3 {S H w} (k:IntKind) (n:Int):aAi S H w (.int k n) (.int k n):=by simp [aAi]
theorem aE5 {S H w} (b:Bool):aAi S H w (.bool b) (.bool b):=by simp [aAi]
theorem aXd {S H w} (b:ByteArray):aAi S H w (.str b) (.string b):=by simp [aAi]
theorem cA0 {S H w}:aAi S H w .u undef:=by simp [aAi,undef]
theorem bWg (w:World) (d:Nat){t:TypeId}{ms} (h:P.underlying t=some (.interface ms)):(Op.equalIn (d+1) t .nilIface .nilIface).run P w= .ok true w:=by
 simp [Op.equalIn,run_underlying h]
theorem bWf (w:World) (d:Nat){t u:TypeId}{ms} {v:Value}(h:P.underlying t=some (.interface ms)):(Op.equalIn (d+1) t (.iface u v) .nilIface).run P w= .ok false w:=by
 simp [Op.equalIn,run_underlying h]
theorem cC8 (w:World){t:TypeId}(a b:Bool) (h:P.underlying t=some .bool):(Op.equal t (.bool a) (.bool b)).run P w= .ok (a == b) w:=run_equal_bool w t a b h
theorem bZw (w:World){t:TypeId}{ms} (h:P.underlying t=some (.interface ms)):(Op.equal t .nilIface .nilIface).run P w= .ok true w:=bWg w 9999 h
theorem cB0 (w:World){t u:TypeId}{ms} {v:Value}(h:P.underlying t=some (.interface ms)):(Op.equal t (.iface u v) .nilIface).run P w= .ok false w:=bWf w 9999 h
theorem bWh (w:World) (d:Nat){t e:TypeId}{A:Option Addr}{l c:Nat}(h:P.underlying t=some (.slice e)):(Op.equalIn (d+1) t (.slice A l c) (.slice none 0 0)).run P w= .ok A.isNone w:=by
 cases A<;>simp [Op.equalIn,run_underlying h]
theorem bZx (w:World){t e:TypeId}{A:Option Addr}{l c:Nat}(h:P.underlying t=some (.slice e)):(Op.equal t (.slice A l c) (.slice none 0 0)).run P w= .ok A.isNone w:=bWh w 9999 h
theorem bUe {S:Nat->Prop}{H:Hp}{w:World}(dr neg cst:Bool) (t:TypeId) (x y:AV) (u v:Value) (K:AV->Prop) (hT:TOK P T)
 (h:veq dr neg cst (T.ti t) x y K) (hx:aAi S H w x u) (hy:aAi S H w y v) (X Y:Operand) (hc:cst=true->isc X=true\/isc Y=true):
 ∃r val,((do eqGuard (if neg then .neq else .eql) t X Y u v;binOp (if neg then .neq else .eql) t u v):Sem Value).run P w= .ok val w/\aAi S H w r val/\K r:=by
 unfold veq at h
 split at h
 · rename_i hk
   have hu:=bTd hT hk
   split at h
   · obtain ⟨r,rfl,hK⟩:=h
     rename_i a b
     simp only [aAi] at hx hy
     subst hx hy
     refine ⟨_,.bool ((a == b) != neg),?_,aE5 _,hK⟩
     cases neg<;>simp [eqGuard,binOp,cC8 w a b hu]
   · exact h.elim
 · rename_i hk
   obtain ⟨ms,hu⟩:=bOy hT hk
   split at h
   · split at h
     · simp only [aAi] at hx hy
       subst hx hy
       refine ⟨_,.bool (!neg),?_,aE5 _,h⟩
       rcases hc rfl with hc'|hc'
       · cases X<;>first|(cases neg<;>simp [eqGuard,binOp,bZw w hu];done)|(simp [isc] at hc';done)
       · cases Y<;>first|(cases X<;>cases neg<;>simp [eqGuard,binOp,bZw w hu];done)|(simp [isc] at hc';done)
     · simp only [aAi] at hx hy
       obtain ⟨z,rfl,_⟩:=hx
       subst hy
       refine ⟨_,.bool neg,?_,aE5 _,h⟩
       cases neg<;>simp [eqGuard,binOp,cB0 w hu]
     · exact h.elim
   · exact h.elim
 · rename_i e hk
   have hu:=aMo hT hk
   split at h
   · simp only [aAi] at hy
     subst hy
     split at h
     · simp only [aAi] at hx
       subst hx
       refine ⟨_,.bool (!neg),?_,aE5 _,h⟩
       cases neg<;>simp [eqGuard,binOp,bZx w hu]
     · rename_i sz es
       simp only [aAi] at hx
       obtain ⟨A,c,rfl,hc,hm,hx⟩:=hx
       have hr:((do eqGuard (if neg then .neq else .eql) t X Y (.slice A es.length c) (.slice none 0 0);binOp (if neg then .neq else .eql) t (.slice A es.length c) (.slice none 0 0)):Sem Value).run P w= .ok (.bool (A.isNone != neg)) w:=by
        cases neg<;>simp [eqGuard,binOp,bZx w hu]
       split at h
       · split at h
         · exact h.elim
         · refine ⟨_,_,hr,aE5 _,?_⟩
           generalize (A.isNone != neg)=b
           cases b
           · exact h.2
           · exact h.1
       · rcases hx with hx|⟨a,rfl,_⟩
         · cases hx
         · exact ⟨_,_,hr,aE5 _,by simpa using h⟩
     · exact h.elim
   · exact h.elim
 · exact h.elim
theorem aWa {k k':IntKind}(h:bFi k k'=true):k=k':=by
 cases k<;>cases k'<;>first|rfl|(exact absurd h (by decide))
theorem bI9 (a b:ByteArray):(a.toList == b.toList)=decide (a=b):=by
 have:a.toList=b.toList↔a=b:=by
  rw [ByteArray.toList_eq,ByteArray.toList_eq]
  refine ⟨λh=>?_,λh=>by rw [h]⟩
  exact ByteArray.ext (Array.ext' h)
 by_cases h:a=b
 · simp [h]
 · have h':¬a.toList=b.toList:=λe=>h (this.1 e)
   simp [h,h']
theorem bLn (a b:Int):(a == b)=decide (a=b):=by
 by_cases h:a=b<;>simp [h]
theorem aRs {n:Nat}{a:Int}(h0:0<=a) (h1:a<2 ^ n):(BitVec.ofInt n a).toNat=a.toNat:=by
 rw [BitVec.toNat_ofInt,Int.emod_eq_of_lt h0 (by exact_mod_cast h1)]
theorem bXy {S:Nat->Prop}{H:Hp}{w:World}(dr:Bool) (op:BinOp) (cst:Bool) (t:TypeId) (x y:AV) (u v:Value) (K:AV->Prop) (hT:TOK P T)
 (h:cA6 dr op cst (T.ti t) x y K) (hx:aAi S H w x u) (hy:aAi S H w y v) (X Y:Operand) (hc:cst=true->isc X=true\/isc Y=true):
 ∃r val,((do eqGuard op t X Y u v;binOp op t u v):Sem Value).run P w= .ok val w/\aAi S H w r val/\K r:=by
 unfold cA6 at h
 split at h
 case h_1|h_2=>
  obtain ⟨h0,r,rfl,hk⟩:=h
  simp only [aAi] at hx hy;subst hx hy
  refine ⟨_,_,?_,aE3 _ _,hk⟩
  simp [eqGuard,binOp,Op.shift,Int.not_lt.2 h0]
 case h_3|h_4|h_5=>
  rw [aBy] at h
  obtain ⟨hkk,r,rfl,hk⟩:=h
  have:=aWa hkk;subst this
  simp only [aAi] at hx hy;subst hx hy
  refine ⟨_,_,?_,aE3 _ _,hk⟩
  simp [eqGuard,binOp,Op.intArith]
 case h_6|h_7=>
  rw [aBy] at h
  obtain ⟨hkk,h0,r,rfl,hk⟩:=h
  have:=aWa hkk;subst this
  simp only [aAi] at hx hy;subst hx hy
  refine ⟨_,_,?_,aE3 _ _,hk⟩
  simp [eqGuard,binOp,Op.intDiv,h0]
 case h_8|h_9|h_10|h_11|h_12|h_13=>
  rw [aBy] at h
  obtain ⟨hkk,hk⟩:=h
  have:=aWa hkk;subst this
  simp only [aAi] at hx hy;subst hx hy
  refine ⟨_,_,?_,aE5 _,hk⟩
  first
   |(simp [eqGuard,binOp,Op.intCmp];done)
   |(simp [eqGuard,binOp,Op.intCmp];exact bLn _ _)
   |(simp [eqGuard,binOp,Op.intCmp,bne];rw [bLn])
 case h_14|h_15=>
  rw [aBy] at h
  obtain ⟨hkk,h0,h1,h2,h3,r,rfl,hk⟩:=h
  have:=aWa hkk;subst this
  simp only [aAi] at hx hy;subst hx hy
  refine ⟨_,_,?_,aE3 _ _,hk⟩
  simp only [eqGuard,binOp,Op.intBits,BitVec.toNat_or,BitVec.toNat_and,aRs h0 h1,aRs h2 h3]
  simp
 case h_16=>
  obtain ⟨h0,hk⟩:=h
  rename_i a b
  simp only [aAi] at hx hy;subst hx hy
  refine ⟨_,_,?_,aXd _,hk⟩
  simp [eqGuard,binOp,Op.stringOp]
  omega
 case h_17|h_18|h_19|h_20=>
  simp only [aAi] at hx hy;subst hx hy
  refine ⟨_,_,?_,aE5 _,h⟩
  simp [eqGuard,binOp,Op.stringOp,bI9]
 case h_21=>exact bUe dr false cst t x y u v K hT h hx hy X Y hc
 case h_22=>exact bUe dr true cst t x y u v K hT h hx hy X Y hc
 case h_23=>exact h.elim
end Go.V
namespace Go.V
open Go.RowKit
variable {P:Program}{gl:Gl}{T:Tab}
theorem aD3 (b o k:Nat):(⟨b,o,none⟩:Addr).add k=⟨b,o+k,none⟩:=by
 unfold Addr.add;split<;>simp_all
theorem bLj (a:Addr) (n k:Nat) (h:a.spot=none):(a.add n).add k=a.add (n+k):=by
 obtain ⟨b,o,s⟩:=a
 simp only at h;subst h
 simp [aD3,Nat.add_assoc]
theorem aLw {w:World}(a:Addr) (n k:Nat):∀{u:Value},w.cell? (a.add (n+k))=some u->w.cell? ((a.add n).add k)=some u:=by
 intro u h
 obtain ⟨b,o,s⟩:=a
 cases s with
 |none=>rw [bLj _ _ _ rfl];exact h
 |some s=>
  by_cases hn:n=0
  · subst hn;simpa [Addr.add] using h
  · unfold Addr.add at h ⊢
    rw [if_neg (by omega)] at h
    rw [if_neg hn]
    by_cases hk:k=0
    · subst hk;simpa using h
    · rw [if_neg hk];simpa [Nat.add_assoc] using h
theorem cCi (hT:TOK P T) (t:TypeId) (hk:(T.ti t).k≠ .bad) (w:World):(isAgg t).run P w= .ok (T.ti t).ag w:=by
 have f:=(hT.get hk).kind
 unfold TI.ag
 cases hu:P.underlying t with
 |none=>rw [hu] at f;cases h:(T.ti t).k<;>rw [h] at f hk<;>simp [kok] at f hk
 |some d=>
  rw [hu] at f
  simp only [isAgg,Sem.run_bind,run_underlying hu,Result.andThen_ok]
  cases h:(T.ti t).k<;>rw [h] at f hk<;>cases d<;>first|(simp [kok] at f hk;done)|rfl
theorem aR7 (hT:TOK P T) (t:TypeId) (hk:(T.ti t).k≠ .bad) (w:World):(sizeOf t).run P w= .ok (T.ti t).size w:=by
 have f:=(hT.get hk).info
 cases hi:P.info? t with
 |none=>rw [hi] at f;cases f
 |some i=>
  rw [hi] at f
  simp only [Option.map_some,Option.some.injEq,Prod.mk.injEq] at f
  simp [sizeOf,typeInfo,hi,f.2.1]
theorem bD9 {S H w} {cs:List AV}{vs:List Value}(h1:One vs) (h:aAt S H w cs vs):aAi S H w (.agg cs) (.agg vs.toArray):=by
 simp only [aAi];exact ⟨vs,rfl,h1,h⟩
theorem bXq {S H w} {cs:List AV}{vs:List Value}(h:aAt S H w cs vs):aAi S H w (.tup cs) (.tuple vs.toArray):=by
 simp only [aAi];exact ⟨vs,rfl,h⟩
def cCw (ti:TI) (cs:List AV) (K:AV->Prop):Bool->Prop
 |true=>chk (Nat.ble ti.size cs.length) (K (.agg (cs.take ti.size)))
 |false=>match cs with
  |x::_=>K x
  |[]=>False
theorem cAh {ti:TI}(hk:ti.k≠ .bad) (cs:List AV) (K:AV->Prop):ldc ti cs K=cCw ti cs K ti.ag:=by
 unfold ldc
 split
 · contradiction
 · cases ti.ag<;>rfl
theorem bNi (hT:TOK P T){S:Nat->Prop}{H:Hp}{w:World}(t:TypeId) (a:Addr){cs:List AV}{vs:List Value}{K:AV->Prop}
 (h:ldc (T.ti t) cs K) (hl:aAt S H w cs vs) (h1:One vs) (hc:∀k u,vs[k]? =some u->w.cell? (a.add k)=some u):
 ∃r u,(loadVar t a).run P w= .ok u w/\aAi S H w r u/\K r:=by
 have hk:(T.ti t).k≠ .bad:=by intro e;unfold ldc at h;rw [e] at h;exact h
 rw [cAh hk] at h
 have hag:=cCi hT t hk w
 cases hg:(T.ti t).ag with
 |true=>
  rw [hg] at h hag
  simp only [cCw,aBy] at h
  obtain ⟨hb,hK⟩:=h
  have hle:(T.ti t).size<=cs.length:=Nat.le_of_ble_eq_true hb
  have hlen:=aAt.length hl
  have hcl:(loadCells a (vs.take (T.ti t).size).length).run P w= .ok (vs.take (T.ti t).size).toArray w:=
   run_loadCells_list (P:=P) w a _ (λj v hv=>hc j v (by
    rw [List.getElem?_take] at hv;split at hv
    · exact hv
    · cases hv))
  have e:(vs.take (T.ti t).size).length=(T.ti t).size:=by simp;omega
  rw [e] at hcl
  refine ⟨_,.agg (vs.take (T.ti t).size).toArray,?_,bD9 (λu hu=>h1 u (List.mem_of_mem_take hu)) (aAt.take _ hl),hK⟩
  simp [loadVar,hag,aR7 hT t hk w,hcl]
 |false=>
  rw [hg] at h hag
  cases cs with
  |nil=>exact h.elim
  |cons x cs=>
   simp only [aAt] at hl
   obtain ⟨v,r,rfl,hv,_⟩:=hl
   have hc0:=hc 0 v rfl
   have e:a.add 0=a:=by simp [Addr.add]
   rw [e] at hc0
   refine ⟨x,v,?_,hv,h⟩
   simp [loadVar,hag,hc0]
theorem bLp {S B H w} (hok:HeapOK S B H w){p:Nat}{t:TypeId}{cs:List AV}(h:aAd H.h p= .box t cs):
 ∃vs,aAt S H w cs vs/\One vs/\∀k u,vs[k]? =some u->w.cell? ⟨H.β p,k,none⟩=some u:=by
 obtain ⟨vs,hh,h1,hl,_⟩:=hok.box p t cs h
 refine ⟨vs,hl,h1,λk u hu=>?_⟩
 rw [cell_of_row w _ k _ t (0,0) hh]
 simpa using hu
theorem aFi {vss:List (List Value)}{sz:Nat}(hz:∀vs∈vss,vs.length=sz):∀{i:Nat}{vs:List Value},vss[i]? =some vs->∀{k:Nat}{u:Value},vs[k]? =some u->vss.flatten[i*sz+k]? =some u:=by
 induction vss with
 |nil=>intro i vs hi;simp at hi
 |cons x r ih=>
  intro i vs hi k u hk
  have hx:x.length=sz:=hz x (by simp)
  cases i with
  |zero=>
   simp at hi;subst hi
   have hlt:k<x.length:=by
    rcases Nat.lt_or_ge k x.length with h|h
    · exact h
    · rw [List.getElem?_eq_none h] at hk;cases hk
   simp [List.getElem?_append_left hlt,hk]
  |succ i=>
   simp at hi
   have:=ih (λvs hv=>hz vs (List.mem_cons_of_mem _ hv)) hi hk
   rw [List.flatten_cons,List.getElem?_append_right (by rw [hx,Nat.succ_mul];omega)]
   rw [show (i+1)*sz+k - x.length=i*sz+k by rw [hx,Nat.succ_mul];omega]
   exact this
theorem bOo {S:Nat->Prop}{w:World}{b cap e sz:Nat}{es:List (List AV)}(h:aO7 S w b cap e sz es){i:Nat}{cs:List AV}(hi:es[i]? =some cs):
 ∃vs,aAt S H0 w cs vs/\One vs/\vs.length=sz/\∀k u,vs[k]? =some u->w.cell? ⟨b,i*sz+k,none⟩=some u:=by
 obtain ⟨cur,vss,hh,hcs,h0,hn,hm,hl,hz,ht⟩:=h
 obtain ⟨vs,hvi,hvs⟩:=aAr.get hl hi
 have hmem:=List.mem_of_getElem? hvi
 refine ⟨vs,hvs,(hz vs hmem).2,(hz vs hmem).1,λk u hk=>?_⟩
 have hf:=aFi (λvs hv=>(hz vs hv).1) hvi hk
 rw [<- ht,List.getElem?_take] at hf
 rw [cell_of_row w b _ cur e (0,0) hh]
 split at hf
 · simpa using hf
 · cases hf
theorem aCk {H:Hp}{p fz e sz es} (h:aAd H.h p= .row fz e sz es):H.at p=some (some (sz,es.length)):=by simp [Hp.at,h,Ob.sz]
theorem aIn {H:Hp}{p t cs} (h:aAd H.h p= .box t cs):H.at p=some (some (0,0)):=by simp [Hp.at,h,Ob.sz]
theorem aHe {H:Hp}{p x k} (h:aAd H.h p= .iter x k):H.at p=some (some (0,0)):=by simp [Hp.at,h,Ob.sz]
theorem aPo {H:Hp}{p l} (h:aAd H.h p= .kv l):H.at p=some (some (0,0)):=by simp [Hp.at,h,Ob.sz]
theorem bXw (hT:TOK P T){t m e:Nat}(h:(T.ti t).k= .arr m e):P.underlying t=some (.array m e):=by
 have f:=(hT.get (t:=t) (by rw [h];simp)).kind
 rw [h] at f
 cases hu:P.underlying t with
 |none=>rw [hu] at f;cases f
 |some d=>
  rw [hu] at f
  cases d<;>first|cases f|(simp [kok] at f;rw [f.1,f.2])
theorem bI6 (hT:TOK P T){t:TypeId}{K:Nat->TI->Prop}(h:T.sl t K):∃e,P.underlying t=some (.slice e)/\(T.ti e).k≠ .bad/\K e (T.ti e):=by
 unfold Tab.sl at h
 split at h
 · rename_i e hk
   split at h
   · exact h.elim
   · rename_i hne
     exact ⟨e,aMo hT hk,λeb=>hne eb,h⟩
 · exact h.elim
theorem aRo {H:Hp}{p:Nat}(h:aLc (aAd H.h) p=true):∃sz,H.at p=some (some sz):=by
 unfold aLc at h
 unfold Hp.at
 cases hg:aAd H.h p<;>rw [hg] at h<;>simp [Ob.sz] at h ⊢
theorem bGq (hT:TOK P T) {S B} {H:Hp}{w:World}(hok:HeapOK S B H w) (t:TypeId){x:AV}{v:Value}{K:AV->Prop}
 (h:aXr (T.ti t) (aAd H.h) x K) (hx:aAi S H w x v):∃r u,(Instr.loadAt t v).run P w= .ok u w/\aAi S H w r u/\K r:=by
 unfold aXr at h
 split at h
 · rename_i cs
   simp only [aAi] at hx
   obtain ⟨a,rfl,_,_,vs,hl,h1,hc⟩:=hx
   obtain ⟨r,u,hr,hv,hK⟩:=bNi hT t a h hl h1 hc
   exact ⟨r,u,by simpa [Instr.loadAt,Instr.sureAddr] using hr,aAi.plain hv,hK⟩
 · rename_i p c
   split at h
   · rename_i t' cs hg
     simp only [aAi] at hx
     have:=hx.2.2 _ (aIn hg)
     subst this
     obtain ⟨vs,hl,h1,hc⟩:=bLp hok hg
     obtain ⟨r,u,hr,hv,hK⟩:=bNi hT t ⟨H.β p,c,none⟩ h (aAt.drop c hl) (λu hu=>h1 u (List.mem_of_mem_drop hu))
      (λk u hk=>by rw [aD3];rw [List.getElem?_drop] at hk;exact hc _ _ hk)
     exact ⟨r,u,by simpa [Instr.loadAt,Instr.sureAddr] using hr,hv,hK⟩
   · exact h.elim
 · rename_i p i c
   split at h
   · rename_i fz e sz es hg
     obtain ⟨cs,hi,h⟩:=h
     simp only [aAi] at hx
     have:=hx.2.2 _ (aCk hg)
     subst this
     obtain ⟨vs,hl,h1,hz,hc⟩:=bOo (hok.row p fz e sz es hg).1 hi
     obtain ⟨r,u,hr,hv,hK⟩:=bNi hT t ⟨H.β p,i*sz+c,none⟩ h (aAt.drop c hl) (λu hu=>h1 u (List.mem_of_mem_drop hu))
      (λk u hk=>by rw [aD3,Nat.add_assoc];rw [List.getElem?_drop] at hk;exact hc _ _ hk)
     exact ⟨r,u,by simpa [Instr.loadAt,Instr.sureAddr] using hr,aAi.plain hv,hK⟩
   · exact h.elim
 · exact h.elim
end Go.V
namespace Go.V
open Go.RowKit
variable {P:Program}{gl:Gl}{T:Tab}{B:Base}{S:Nat->Prop}{H:Hp}{a:Act}{w:World}{E:Operand->AV}{n:Nat}{K:AV->List (Nat×Ob)->Prop}{dr:Bool}
theorem bN9 (hr:Opn gl B S H w E a){o:Oper}{x:Operand}(ho:o.op= .move x\/o.op= .assign x) (h:K (E x) []):Ok1 P gl B S H a w o K:=by
 refine aBr hr (u:=a.eval x) ?_ h (hr.ev x)
 rcases ho with ho|ho<;>simp [execOp,ho]
theorem bXj (hr:Opn gl B S H w E a){o:Oper}{c x y:Operand}(ho:o.op= .pick c x y) (h:vop P gl T dr o.op E (aAd H.h) n K):Ok1 P gl B S H a w o K:=by
 rw [ho] at h
 simp only [vop] at h
 have hc:=hr.ev c
 split at h
 · rename_i t e;rw [e] at hc;simp only [aAi] at hc
   cases t with
   |true=>exact aBr hr (u:=a.eval x) (by simp [execOp,ho,hc,asBool]) h (hr.ev x)
   |false=>exact aBr hr (u:=a.eval y) (by simp [execOp,ho,hc,asBool]) h (hr.ev y)
 · exact h.elim
theorem cAo (hT:TOK P T) (hr:Opn gl B S H w E a){o:Oper}{op:BinOp}{t ty:TypeId}{x y:Operand}(ho:o.op= .binOp op t x y ty) (h:vop P gl T dr o.op E (aAd H.h) n K):Ok1 P gl B S H a w o K:=by
 rw [ho] at h
 simp only [vop] at h
 obtain ⟨r,v,hv,hrep,hK⟩:=bXy _ op _ t _ _ _ _ _ hT h (hr.ev x) (hr.ev y) x y (λe=>by simpa using e)
 refine aBr hr (u:=v) ?_ hK hrep
 simp only [execOp,ho]
 rw [Sem.run_bind,hv];rfl
theorem cCg (hr:Opn gl B S H w E a){o:Oper}{op:UnOp}{t:TypeId}{x:Operand}(ho:o.op= .unOp op t x) (h:vop P gl T dr o.op E (aAd H.h) n K):Ok1 P gl B S H a w o K:=by
 rw [ho] at h
 have hx:=hr.ev x
 cases op<;>simp only [vop] at h
 · split at h
   · rename_i e;rw [e] at hx;simp only [aAi] at hx
     obtain ⟨r,rfl,hK⟩:=h
     exact aBr hr (by simp [execOp,ho,hx,Op.unary,Op.intArith]) hK (aE3 _ _)
   · exact h.elim
 · split at h
   · rename_i e;rw [e] at hx;simp only [aAi] at hx
     exact aBr hr (u:=.bool _) (by simp [execOp,ho,hx,Op.unary]) h (aE5 _)
   · exact h.elim
theorem bXh (hT:TOK P T) (hr:Opn gl B S H w E a){o:Oper}{t:TypeId}{x:Operand}(ho:o.op= .load t x) (h:vop P gl T dr o.op E (aAd H.h) n K):Ok1 P gl B S H a w o K:=by
 rw [ho] at h
 simp only [vop] at h
 obtain ⟨r,u,hv,hrep,hK⟩:=bGq hT hr.wd.ok t h (hr.ev x)
 exact aBr hr (by simp [execOp,ho,hv]) hK hrep
theorem cAu (hr:Opn gl B S H w E a){o:Oper}{x:Operand}(ho:o.op= .nilCheck x) (h:vop P gl T dr o.op E (aAd H.h) n K):Ok1 P gl B S H a w o K:=by
 rw [ho] at h
 simp only [vop] at h
 have hx:=hr.ev x
 split at h
 · rename_i p c e
   have hx':=hx
   rw [e] at hx hx';simp only [aAi] at hx
   simp only [aBy] at h
   obtain ⟨sz,hat⟩:=aRo h.1
   refine aBr hr (u:=a.eval x) ?_ h.2 hx'
   rw [hx.2.2 sz hat]
   simp [execOp,ho,hx.2.2 sz hat]
 · rename_i cs e
   have hx':=hx
   rw [e] at hx hx';simp only [aAi] at hx
   obtain ⟨ad,hv,_⟩:=hx
   refine aBr hr (u:=.pointer (some ad)) (by simp [execOp,ho,hv]) h (by rw [<- hv];exact hx')
 · exact h.elim
theorem cAt (hT:TOK P T) (hr:Opn gl B S H w E a){o:Oper}{t:TypeId}{x:Operand}(ho:o.op= .makeInterface t x) (h:vop P gl T dr o.op E (aAd H.h) n K):Ok1 P gl B S H a w o K:=by
 rw [ho] at h
 simp only [vop] at h
 have hx:=hr.ev x
 split at h
 · exact h.elim
 · exact h.elim
 · rename_i h1 h2
   have f:=(hT.get (t:=t) (λe=>h1 e)).kind
   refine aBr hr (u:=.iface t (a.eval x)) ?_ h (by simp only [aAi];exact ⟨_,rfl,hx⟩)
   cases hu:P.underlying t with
   |none=>rw [hu] at f;cases hk:(T.ti t).k<;>rw [hk] at f h1<;>simp [kok] at f h1
   |some d=>
    rw [hu] at f
    simp only [execOp,ho,Instr.makeInterface,Sem.run_bind,run_underlying hu,Result.andThen_ok]
    cases hk:(T.ti t).k<;>rw [hk] at f h1 h2<;>cases d<;>first|(simp [kok] at f;done)|(simp at h1;done)|(simp at h2;done)|rfl
theorem cCf (hr:Opn gl B S H w E a){o:Oper}{f:FuncId}{fi cap:Array Operand}(hfi:fi= #[]) (ho:o.op= .makeFunc (.func f) fi cap) (h:K (.fn f (cap.toList.map E)) []):Ok1 P gl B S H a w o K:=by
 subst hfi
 refine aBr hr (u:=.func (.func f) #[] (cap.map a.eval)) (by simp [execOp,ho,Instr.makeFunc]) h ?_
 simp only [aAi]
 refine ⟨(cap.map a.eval).toList,by rw [Array.toArray_toList],?_⟩
 simp only [Array.toList_map]
 induction cap.toList with
 |nil=>rfl
 |cons x r ih=>simp only [List.map_cons,aAt];exact ⟨_,_,rfl,hr.ev x,ih⟩
theorem bIv (hr:Opn gl B S H w E a){o:Oper}{x:Operand}{i:Nat}(ho:o.op= .extract x i) (h:vop P gl T dr o.op E (aAd H.h) n K):Ok1 P gl B S H a w o K:=by
 rw [ho] at h
 simp only [vop] at h
 have hx:=hr.ev x
 split at h
 · rename_i cs e
   rw [e] at hx;simp only [aAi] at hx
   obtain ⟨vs,hv,hl⟩:=hx
   split at h
   · rename_i c hc
     obtain ⟨u,hu,hrep⟩:=aAt.get hl hc
     exact aBr hr (u:=u) (by simp [execOp,ho,hv,Instr.extract,hu]) h hrep
   · exact h.elim
 · exact h.elim
end Go.V
namespace Go.V
open Go.RowKit
variable {P:Program}{gl:Gl}{T:Tab}{B:Base}{S:Nat->Prop}{H:Hp}{a:Act}{w:World}{E:Operand->AV}{n:Nat}{K:AV->List (Nat×Ob)->Prop}{dr:Bool}
theorem aXm (hT:TOK P T){t:TypeId}{fs:List (Nat×Nat×Bool)}(h:(T.ti t).k= .strc fs):∃fl:Array Field,P.underlying t=some (.struct fl)/\
 (∀ (i off n:Nat) (ag:Bool),fs[i]? =some (off,n,ag)->∃f:Field,fl[i]? =some f/\f.offset=off/\(∀ w,(sizeOf f.type).run P w= .ok n w)/\∀w,(isAgg f.type).run P w= .ok ag w)/\fs.length=fl.size:=by
 have f:=(hT.get (t:=t) (by rw [h];simp)).kind
 rw [h] at f
 cases hu:P.underlying t with
 |none=>rw [hu] at f;cases f
 |some d=>
  rw [hu] at f
  cases d with
  |struct fl=>
   simp only [kok,Bool.and_eq_true,beq_iff_eq,List.all_eq_true] at f
   obtain ⟨f1,f2⟩:=f
   refine ⟨fl,rfl,?_,by rw [<- f1];simp⟩
   intro i off n ag hi
   rw [<- f1,List.getElem?_map] at hi
   cases hfi:fl.toList[i]? with
   |none=>rw [hfi] at hi;cases hi
   |some fd=>
    rw [hfi] at hi
    simp only [Option.map_some,Option.some.injEq,Prod.mk.injEq] at hi
    obtain ⟨e1,e2,e3⟩:=hi
    have hs:=f2 fd (List.mem_of_getElem? hfi)
    obtain ⟨hs,hs2⟩:=hs
    cases hi2:P.info? fd.type with
    |none=>rw [hi2] at hs;cases hs
    |some ti=>
     rw [hi2] at e2
     refine ⟨fd,by simpa using hfi,e1,λw=>by simp [sizeOf,typeInfo,hi2];simpa using e2,λw=>?_⟩
     cases hud:P.underlying fd.type with
     |none=>rw [hud] at hs2;cases hs2
     |some d=>
      rw [hud] at e3
      simp only [isAgg,Sem.run_bind,run_underlying hud,Result.andThen_ok]
      cases d<;>simp at e3<;>subst e3<;>rfl
  |_=>cases f
theorem bSt (hT:TOK P T) (hr:Opn gl B S H w E a){o:Oper}{t:TypeId}{x:Operand}{i:Nat}(ho:o.op= .field t x i) (h:vop P gl T dr o.op E (aAd H.h) n K):Ok1 P gl B S H a w o K:=by
 rw [ho] at h
 simp only [vop] at h
 have hx:=hr.ev x
 split at h
 · rename_i fs hk
   obtain ⟨fl,hu,hf,hlen⟩:=aXm hT hk
   split at h
   · rename_i off n ag hi
     obtain ⟨fd,hfd,hoff,hsz,hag⟩:=hf i off n ag hi
     split at h
     · rename_i cs e
       rw [e] at hx;simp only [aAi] at hx
       obtain ⟨vs,hv,h1,hl⟩:=hx
       simp only [aBy] at h
       obtain ⟨hle,h⟩:=h
       have hle:=Nat.le_of_ble_eq_true hle
       have hlv:=aAt.length hl
       split at h
       · refine aBr hr (u:=.agg ((vs.drop off).take n).toArray) ?_ h (bD9 (λu hu=>h1 u (List.mem_of_mem_drop (List.mem_of_mem_take hu))) (aAt.take _ (aAt.drop _ hl)))
         have e2:(vs.toArray).extract off (off+n)=((vs.drop off).take n).toArray:=by simp [List.take_drop,Nat.add_comm]
         simp [execOp,ho,hv,Instr.field,run_underlying hu,hfd,asAgg,part,hag,hsz,hoff,e2]
       · have hd:=aAt.drop off hl
         split at h
         · rename_i c r e3
           rw [e3] at hd
           simp only [aAt] at hd
           obtain ⟨v,r',e4,hvr,_⟩:=hd
           have hget:vs.toArray[off]? =some v:=by
            have:=congrArg (λl:List Value=>l[0]?) e4
            simpa using this
           refine aBr hr (u:=v) ?_ h hvr
           simp [execOp,ho,hv,Instr.field,run_underlying hu,hfd,asAgg,part,hag,hoff,hget]
           have hg2:vs[off]? =some v:=by simpa using hget
           simp [hg2]
         · exact h.elim
     · exact h.elim
   · exact h.elim
 · exact h.elim
theorem bAg (hT:TOK P T) (hr:Opn gl B S H w E a){o:Oper}{t:TypeId}{x:Operand}{i:Nat}(ho:o.op= .fieldAddr t x i) (h:vop P gl T dr o.op E (aAd H.h) n K):Ok1 P gl B S H a w o K:=by
 rw [ho] at h
 simp only [vop] at h
 have hx:=hr.ev x
 split at h
 · rename_i fs hk
   obtain ⟨fl,hu,hf,hlen⟩:=aXm hT hk
   split at h
   · rename_i off n ag hi
     obtain ⟨fd,hfd,hoff,hsz,hag⟩:=hf i off n ag hi
     simp only [aBy] at h
     obtain ⟨hn,h⟩:=h
     have hn:¬n=0:=by simp at hn;omega
     have hrun:∀ad:Addr,a.eval x= .pointer (some ad)->(execOp a.eval o).run P w= .ok (.value (.pointer (some (ad.add off)))) w:=λad hv=>by
      simp [execOp,ho,hv,Instr.fieldAt,run_underlying hu,hfd,Instr.sureAddr,fieldPlace,hsz,hn,hoff]
     split at h
     · rename_i cs e
       rw [e] at hx;simp only [aAi] at hx
       obtain ⟨ad,hv,hs,hb,vs,hl,h1,hc⟩:=hx
       refine aBr hr (hrun ad hv) h.2 ?_
       have hbk:(ad.add off).block=ad.block:=by unfold Addr.add;split<;>rfl
       simp only [aAi]
       exact ⟨ad.add off,rfl,by rw [hbk];exact hs,by rw [hbk];exact hb,vs.drop off,aAt.drop _ hl,λu hu=>h1 u (List.mem_of_mem_drop hu),λk u hk=>aLw _ _ _ (hc _ _ (by rw [List.getElem?_drop] at hk;exact hk))⟩
     · rename_i p c e
       rw [e] at hx;simp only [aAi] at hx
       obtain ⟨sz,hat⟩:=aRo h.1
       have hv:=hx.2.2 sz hat
       refine aBr hr (hrun _ hv) h.2 ?_
       simp only [aAi,aD3]
       exact ⟨rfl,hx.2.1,λ_ _=>trivial⟩
     · rename_i p i' c e
       rw [e] at hx;simp only [aAi] at hx
       obtain ⟨sz,hat⟩:=aRo h.1
       have hv:=hx.2.2 sz hat
       refine aBr hr (hrun _ hv) h.2 ?_
       simp only [aAi,aD3]
       exact ⟨rfl,hx.2.1,λsz' hs=>by rw [hat] at hs;cases hs;rw [Nat.add_assoc]⟩
     · exact h.elim
   · exact h.elim
 · exact h.elim
end Go.V
namespace Go.V
open Go.RowKit
variable {P:Program}{gl:Gl}{T:Tab}{B:Base}{S:Nat->Prop}{H:Hp}{a:Act}{w:World}{E:Operand->AV}{n:Nat}{K:AV->List (Nat×Ob)->Prop}{dr:Bool}
theorem bAh (hT:TOK P T) (hr:Opn gl B S H w E a){o:Oper}{t:TypeId}{x i:Operand}(ho:o.op= .indexAddr t x i) (h:vop P gl T dr o.op E (aAd H.h) n K):Ok1 P gl B S H a w o K:=by
 rw [ho] at h
 simp only [vop] at h
 have hx:=hr.ev x
 have hi:=hr.ev i
 split at h
 · rename_i k n e
   rw [e] at hi;simp only [aAi] at hi
   unfold aSc at h
   split at h
   · rename_i m el hk
     have hu:=bXw hT hk
     split at h
     · exact h.elim
     · rename_i hne
       have hke:(T.ti el).k≠ .bad:=λe=>hne e
       have hsize:=aR7 hT el hke w
       have hrun:∀(ad:Addr) (j:Nat),a.eval x= .pointer (some ad)->n=j->j<m->(execOp a.eval o).run P w= .ok (.value (.pointer (some (ad.add (j*(T.ti el).size))))) w:=λad j hv hj hlt=>by
        subst hj
        have:(0:Int)<=(j:Int)/\(j:Int)<(m:Int):=by omega
        simp [execOp,ho,hv,hi,Instr.indexAt,asIntOf,run_underlying hu,this,hsize,Instr.sureAddr]
        intro hge
        exact absurd hlt (by omega)
       split at h
       · rename_i cs e
         obtain ⟨j,hj,hlt,h⟩:=h
         rw [e] at hx;simp only [aAi] at hx
         obtain ⟨ad,hv,hs,hb,vs,hl,h1,hc⟩:=hx
         refine aBr hr (hrun ad j hv hj hlt) h ?_
         have hbk:(ad.add (j*(T.ti el).size)).block=ad.block:=by unfold Addr.add;split<;>rfl
         simp only [aAi]
         exact ⟨_,rfl,by rw [hbk];exact hs,by rw [hbk];exact hb,vs.drop _,aAt.drop _ hl,λu hu=>h1 u (List.mem_of_mem_drop hu),λk u hk=>aLw _ _ _ (hc _ _ (by rw [List.getElem?_drop] at hk;exact hk))⟩
       · rename_i p c e
         rw [aBy] at h
         obtain ⟨hlv,j,hj,hlt,h⟩:=h
         rw [e] at hx;simp only [aAi] at hx
         obtain ⟨sz,hat⟩:=aRo hlv
         have hv:=hx.2.2 sz hat
         refine aBr hr (hrun _ j hv hj hlt) h ?_
         simp only [aAi,aD3]
         exact ⟨rfl,hx.2.1,λ_ _=>trivial⟩
       · exact h.elim
   obtain ⟨el,hu,hke,h⟩:=bI6 hT h
   have hsize:=aR7 hT el hke w
   split at h
   · rename_i sz es e2
     simp only [aBy] at h
     obtain ⟨hsz,m,cs,rfl,hm,h⟩:=h
     have hsz:=Nat.eq_of_beq_eq_true hsz
     subst hsz
     rw [e2] at hx;simp only [aAi] at hx
     obtain ⟨A,c,hv,hc,hmx,hcases⟩:=hx
     rcases hcases with rfl|⟨ad,rfl,hs,hb,vss,hl,hz,hcell⟩
     · simp at hm
     have hlt:m<es.length:=(List.getElem?_eq_some_iff.1 hm).1
     obtain ⟨vs,hvi,hvs⟩:=aAr.get hl hm
     have hmem:=List.mem_of_getElem? hvi
     refine aBr hr (u:=.pointer (some (ad.add (m*(T.ti el).size)))) ?_ h ?_
     · have:(0:Int)<=(m:Int)/\(m:Int)<(es.length:Int):=by omega
       simp [execOp,ho,hv,hi,Instr.indexAt,asIntOf,run_underlying hu,this,hsize]
       intro hge
       exact absurd hlt (by omega)
     · have hbk:(ad.add (m*(T.ti el).size)).block=ad.block:=by unfold Addr.add;split<;>rfl
       simp only [aAi]
       exact ⟨ad.add (m*(T.ti el).size),rfl,by rw [hbk];exact hs,by rw [hbk];exact hb,vs,hvs,(hz vs hmem).2,λk u hk=>aLw _ _ _ (hcell m vs hvi k u hk)⟩
   · rename_i p off len e2
     split at h
     · rename_i fz e' sz es hg
       simp only [aBy] at h
       obtain ⟨hsz,m,rfl,hm,h⟩:=h
       have hsz:=Nat.eq_of_beq_eq_true hsz
       subst hsz
       have hat:=aCk hg
       rw [e2] at hx;simp only [aAi] at hx
       obtain ⟨hv,hle⟩:=hx.2.2 _ hat
       refine aBr hr (u:=.pointer (some ⟨H.β p,(off+m)*(T.ti el).size,none⟩)) ?_ h ?_
       · have:(0:Int)<=(m:Int)/\(m:Int)<(len:Int):=by omega
         simp [execOp,ho,hv,hi,Instr.indexAt,asIntOf,run_underlying hu,this,hsize,aD3,Nat.add_mul]
         intro hge
         exact absurd hm (by omega)
       · simp only [aAi]
         exact ⟨rfl,hx.2.1,λsz' hs=>by rw [hat] at hs;cases hs;simp⟩
     · exact h.elim
   · exact h.elim
 · exact h.elim
theorem bSu (hT:TOK P T) (hr:Opn gl B S H w E a){o:Oper}{t:TypeId}{x i:Operand}(ho:o.op= .index t x i) (h:vop P gl T dr o.op E (aAd H.h) n K):Ok1 P gl B S H a w o K:=by
 rw [ho] at h
 simp only [vop] at h
 have hx:=hr.ev x
 have hi:=hr.ev i
 split at h
 · rename_i k n e
   rw [e] at hi;simp only [aAi] at hi
   split at h
   · rename_i s hk e2
     have hu:=aLf hT hk
     rw [e2] at hx;simp only [aAi] at hx
     obtain ⟨m,c,rfl,hm,h⟩:=h
     have hc:s[m]? =some c:=by
      have:s.toList=s.data.toList:=ByteArray.toList_eq s
      rw [this] at hm
      have h2:s.data[m]? =some c:=by simpa using hm
      have hlt:=(Array.getElem?_eq_some_iff.1 h2).1
      have:m<s.size:=hlt
      rw [getElem?_pos s m this]
      have h3:=(Array.getElem?_eq_some_iff.1 h2).2
      exact congrArg some h3
     refine aBr hr (u:=.int .u8 c.toNat) ?_ h (aE3 _ _)
     simp [execOp,ho,hx,hi,Instr.index,asIntOf,run_underlying hu,hc]
   · exact h.elim
 · exact h.elim
theorem cAq (hT:TOK P T) (hr:Opn gl B S H w E a){o:Oper}{args:Array Operand}{ats:Array TypeId}(ho:o.op= .call { callee:=.builtin .len,args,argTypes:=ats}) (h:vop P gl T dr o.op E (aAd H.h) n K):Ok1 P gl B S H a w o K:=by
 rw [ho] at h
 simp only [vop] at h
 split at h
 · rename_i x t ea et
   have ea:args= #[x]:=by rw [<- Array.toArray_toList (xs:=args),ea]
   have et:ats= #[t]:=by rw [<- Array.toArray_toList (xs:=ats),et]
   subst ea et
   have hx:=hr.ev x
   have run:∀(d:TypeDesc) (v:Value) (n:Int),P.underlying t=some d->a.eval x=v->(Builtin.len_ #[t] o.type #[v]).run P w= .ok (.int .i64 n) w->
    (execOp a.eval o).run P w= .ok (.value (.int .i64 n)) w:=λd v n hd hv hrun=>by
    simp [execOp,ho,resolve,invoke,builtin,hv,hrun]
   unfold bX1 at h
   split at h
   · rename_i hk
     have hu:=aLf hT hk
     split at h
     · rename_i s e
       rw [e] at hx;simp only [aAi] at hx
       exact aBr hr (run _ _ _ hu hx (by simp [Builtin.len_,run_underlying hu,goInt])) h (aE3 _ _)
     · exact h.elim
   · rename_i el hk
     have hu:=aMo hT hk
     split at h
     · rename_i sz es e
       rw [e] at hx;simp only [aAi] at hx
       obtain ⟨A,c,hv,_⟩:=hx
       exact aBr hr (run _ _ _ hu hv (by simp [Builtin.len_,run_underlying hu,goInt])) h (aE3 _ _)
     · rename_i e
       rw [e] at hx;simp only [aAi] at hx
       exact aBr hr (run _ _ _ hu hx (by simp [Builtin.len_,run_underlying hu,goInt])) h (aE3 _ _)
     · rename_i p off len e
       simp only [aBy] at h
       obtain ⟨sz,hat⟩:=aRo h.1
       rw [e] at hx;simp only [aAi] at hx
       exact aBr hr (run _ _ _ hu (hx.2.2 sz hat).1 (by simp [Builtin.len_,run_underlying hu,goInt])) h.2 (aE3 _ _)
     · exact h.elim
   · exact h.elim
 · exact h.elim
theorem cAs (hr:Opn gl B S H w E a){o:Oper}{args:Array Operand}{ats:Array TypeId}(ho:o.op= .call { callee:=.builtin .min,args,argTypes:=ats}) (h:vop P gl T dr o.op E (aAd H.h) n K):Ok1 P gl B S H a w o K:=by
 rw [ho] at h
 simp only [vop] at h
 split at h
 · rename_i x y ea
   have ea:args= #[x,y]:=by rw [<- Array.toArray_toList (xs:=args),ea]
   subst ea
   have hx:=hr.ev x
   have hy:=hr.ev y
   split at h
   · rename_i k m k' n e1 e2
     obtain ⟨rfl,r,rfl,h⟩:=h
     rw [e1] at hx;rw [e2] at hy;simp only [aAi] at hx hy
     exact aBr hr (u:=.int k _) (by simp [execOp,ho,resolve,invoke,builtin,hx,hy,Builtin.min_,Builtin.min2]) h (aE3 _ _)
   · exact h.elim
 · exact h.elim
theorem cAr (hr:Opn gl B S H w E a){o:Oper}{args:Array Operand}{ats:Array TypeId}(ho:o.op= .call { callee:=.builtin .max,args,argTypes:=ats}) (h:vop P gl T dr o.op E (aAd H.h) n K):Ok1 P gl B S H a w o K:=by
 rw [ho] at h
 simp only [vop] at h
 split at h
 · rename_i x y ea
   have ea:args= #[x,y]:=by rw [<- Array.toArray_toList (xs:=args),ea]
   subst ea
   have hx:=hr.ev x
   have hy:=hr.ev y
   split at h
   · rename_i k m k' n e1 e2
     obtain ⟨rfl,r,rfl,h⟩:=h
     rw [e1] at hx;rw [e2] at hy;simp only [aAi] at hx hy
     exact aBr hr (u:=.int k _) (by simp [execOp,ho,resolve,invoke,builtin,hx,hy,Builtin.max_,Builtin.max2]) h (aE3 _ _)
   · exact h.elim
 · exact h.elim
end Go.V
namespace Go.V
open Go.RowKit
variable {P:Program}{gl:Gl}{T:Tab}{B:Base}{S:Nat->Prop}{H:Hp}{a:Act}{w:World}{E:Operand->AV}{n:Nat}{K:AV->List (Nat×Ob)->Prop}{dr:Bool}
theorem aNs (hr:Opn gl B S H w E a){x:Option Operand}{d:Int}{K:Int->Prop}(h:bnd (x.map E) d K):
 ∃n,K n/\((x=none/\n=d)\/∃y k,x=some y/\a.eval y= .int k n):=by
 cases x with
 |none=>exact ⟨d,h,.inl ⟨rfl,rfl⟩⟩
 |some y=>
  simp only [Option.map_some,bnd] at h
  split at h
  · rename_i e;cases e
  · rename_i k n e
    have hy:=hr.ev y
    have e':E y= .int k n:=by simpa using e
    rw [e'] at hy;simp only [aAi] at hy
    exact ⟨n,h,.inr ⟨y,k,rfl,hy⟩⟩
  · exact h.elim
theorem aLq {w:World}{k:IntKind}{n:Int}{y:Nat}(code:BoundsCode) (h0:0<=n) (h1:n<=y):(Instr.sliceBound (.int k n) y code).run P w= .ok n.toNat w:=by
 simp [Instr.sliceBound,asIntOf,h0,h1]
theorem aJ2 (isS:Bool){w:World}{a:Act}{lo hi:Option Operand}{l u:Int}{len cap:Nat}
 (hlo:(lo=none/\l=0)\/∃y k,lo=some y/\a.eval y= .int k l) (hhi:(hi=none/\u=len)\/∃y k,hi=some y/\a.eval y= .int k u)
 (h0:0<=l) (h1:l<=u) (h2:u<=len) (hc:len<=cap):
 (Instr.sliceBounds isS len cap (lo.map a.eval) (hi.map a.eval) none).run P w= .ok (l.toNat,u.toNat,cap) w:=by
 have hu:∀code,u<=(cap:Int):=λ_=>by omega
 rcases hhi with ⟨rfl,rfl⟩|⟨y,k,rfl,hy⟩<;>rcases hlo with ⟨rfl,rfl⟩|⟨z,k',rfl,hz⟩<;>
  simp [Instr.sliceBounds, *,aLq]
 all_goals (have h3:((u.toNat:Nat):Int)=u:=by omega)
 · rw [aLq _ (by omega) (by omega)];simp
 · rw [aLq _ (by omega) (by omega)];simp [aLq _ h0 (by omega:l<=((u.toNat:Nat):Int))]
theorem bSw (hT:TOK P T) (hr:Opn gl B S H w E a){o:Oper}{t:TypeId}{x:Operand}{lo hi:Option Operand}(ho:o.op= .slice t x lo hi none) (h:vop P gl T dr o.op E (aAd H.h) n K):Ok1 P gl B S H a w o K:=by
 rw [ho] at h
 simp only [vop] at h
 have hx:=hr.ev x
 unfold aSd at h
 split at h
 · rename_i hk
   have hu:=aLf hT hk
   split at h
   · rename_i s e
     rw [e] at hx;simp only [aAi] at hx
     obtain ⟨l,h,hl⟩:=aNs hr h
     obtain ⟨u,⟨h0,h1,h2,r,rfl,hK⟩,hh⟩:=aNs hr h
     refine aBr hr (u:=.string _) ?_ hK (aXd _)
     have hb:=aJ2 (P:=P) false (w:=w) hl hh h0 h1 h2 (Nat.le_refl _)
     simp [execOp,ho,hx,Instr.sliceAt,Instr.slice,run_underlying hu,hb]
   · exact h.elim
 · obtain ⟨el,hu,hke,h⟩:=bI6 hT h
   have hsize:=aR7 hT el hke w
   split at h
   · rename_i sz es e
     rw [e] at hx;simp only [aAi] at hx
     simp only [aBy] at h
     obtain ⟨hsz,h⟩:=h
     have hsz:=Nat.eq_of_beq_eq_true hsz
     subst hsz
     obtain ⟨l,h,hl⟩:=aNs hr h
     obtain ⟨u,⟨h0,h1,h2,r,rfl,hK⟩,hh⟩:=aNs hr h
     obtain ⟨A,c,hv,hc,hmx,hcases⟩:=hx
     have hb:=aJ2 (P:=P) true (w:=w) hl hh h0 h1 h2 hc
     refine aBr hr (u:=.slice (if c=l.toNat then A else A.map (·.add (l.toNat*(T.ti el).size))) (u.toNat - l.toNat) (c - l.toNat)) ?_ hK ?_
     · simp [execOp,ho,hv,Instr.sliceAt,Instr.slice,run_underlying hu,hb,hsize]
     · have hlen:((es.drop l.toNat).take (u.toNat - l.toNat)).length=u.toNat - l.toNat:=by simp;omega
       simp only [aAi]
       refine ⟨_,_,by rw [hlen],by rw [hlen];omega,by omega,?_⟩
       rcases hcases with rfl|⟨ad,rfl,hs,hbk,vss,hll,hz,hcell⟩
       · left;simp
       · by_cases hlu:l<u
         · right
           have hne:¬c=l.toNat:=by omega
           have hbk':(ad.add (l.toNat*(T.ti el).size)).block=ad.block:=by unfold Addr.add;split<;>rfl
           refine ⟨ad.add (l.toNat*(T.ti el).size),by simp [hne],by rw [hbk'];exact hs,by rw [hbk'];exact hbk,(vss.drop l.toNat).take (u.toNat - l.toNat),aAr.take _ (aAr.drop _ hll),λvs hvs=>hz vs (List.mem_of_mem_drop (List.mem_of_mem_take hvs)),λi vs hi k x hk=>?_⟩
           rw [List.getElem?_take] at hi
           split at hi
           · rw [List.getElem?_drop] at hi
             refine aLw _ _ _ ?_
             have:=hcell _ vs hi k x hk
             rw [Nat.add_mul] at this
             rwa [Nat.add_assoc] at this
           · cases hi
         · left
           have:u.toNat - l.toNat=0:=by omega
           simp [this]
   · rename_i e
     rw [e] at hx;simp only [aAi] at hx
     obtain ⟨l,h,hl⟩:=aNs hr h
     obtain ⟨u,⟨rfl,rfl,hK⟩,hh⟩:=aNs hr h
     have hb:=aJ2 (P:=P) true (w:=w) (len:=0) (cap:=0) hl hh (Int.le_refl _) (Int.le_refl _) (by simp) (Nat.le_refl _)
     refine aBr hr (u:=.slice none 0 0) ?_ hK (by simp [aAi])
     simp [execOp,ho,hx,Instr.sliceAt,Instr.slice,run_underlying hu,hb,hsize]
   · rename_i p off len e
     split at h
     · rename_i fz e' sz es hg
       simp only [aBy] at h
       obtain ⟨hsz,h⟩:=h
       have hsz:=Nat.eq_of_beq_eq_true hsz
       subst hsz
       have hat:=aCk hg
       rw [e] at hx;simp only [aAi] at hx
       obtain ⟨hv,hle'⟩:=hx.2.2 _ hat
       have hle:off+len<=H.κ p:=by
        obtain ⟨⟨_,_,_,_,_,hcap,_⟩,_⟩:=hr.wd.ok.row p fz e' _ es hg
        simp only at hle';omega
       obtain ⟨l,h,hl⟩:=aNs hr h
       obtain ⟨u,⟨h0,h1,h2,h3,o',n',e1,e2,hK⟩,hh⟩:=aNs hr h
       have hb:=aJ2 (P:=P) true (w:=w) hl hh h0 h1 h2 (by omega:len<=H.κ p - off)
       refine aBr hr (u:=.slice (some ⟨H.β p,o'*(T.ti el).size,none⟩) n' (H.κ p - o')) ?_ hK ?_
       · simp only [execOp,ho,hv,Instr.sliceAt,Instr.slice,run_underlying hu,hb,hsize,Sem.run_bind,Option.map_none,Result.andThen_ok,Sem.run_pure]
         have e3:u.toNat - l.toNat=n':=by omega
         have e4:H.κ p - off - l.toNat=H.κ p - o':=by omega
         have e5:o'=off+l.toNat:=by omega
         rw [e3,e4]
         by_cases hcl:H.κ p - off=l.toNat
         · have hl0:o'=off:=by omega
           rw [if_pos hcl,hl0]
         · rw [if_neg hcl,e5,Nat.add_mul]
           simp only [Option.map_some,aD3]
       · simp only [aAi]
         refine ⟨rfl,hx.2.1,λsz' hs=>?_⟩
         rw [hat] at hs;cases hs
         exact ⟨rfl,by omega⟩
     · exact h.elim
   · exact h.elim
end Go.V
namespace Go.V
open Go.RowKit
variable {P:Program}{gl:Gl}{T:Tab}{B:Base}{S:Nat->Prop}{H:Hp}{a:Act}{w:World}{E:Operand->AV}{n:Nat}{K:AV->List (Nat×Ob)->Prop}{dr:Bool}
theorem aI3 {S H w} {n:Nat}{x:AV}{v:Value}(h:bTa n x=true) (hx:aAi S H w x v):
 ∃vs:List Value,v.cells=vs.toArray/\vs.length=n/\One vs/\aAt S H w (cells x) vs/\n≠0:=by
 unfold bTa at h
 simp only [Bool.and_eq_true,Bool.not_eq_true'] at h
 obtain ⟨h1,h2⟩:=h
 have h1:=Nat.eq_of_beq_eq_true h1
 have h2:=Nat.ne_of_beq_eq_false h2
 have one:∀v:Value,aAi S H w x v->(cells x)=[x]->v.oneCell'=true->∃vs:List Value,v.cells=vs.toArray/\vs.length=n/\One vs/\aAt S H w (cells x) vs/\n≠0:=λv hv hc ho=>by
  refine ⟨[v],?_,by rw [hc] at h1;simpa using h1,by intro u hu;simp at hu;subst hu;exact ho,by rw [hc];simp only [aAt];exact ⟨v,[],rfl,hv,rfl⟩,h2⟩
  cases v<;>first|rfl|simp [Value.oneCell'] at ho
 cases x with
 |agg cs=>
  simp only [aAi] at hx
  obtain ⟨vs,rfl,ho,hl⟩:=hx
  exact ⟨vs,rfl,by rw [aAt.length hl];exact h1,ho,hl,h2⟩
 |j=>simp [cells] at h1;exact absurd h1.symm h2
 |u=>simp [cells] at h1;exact absurd h1.symm h2
 |tup cs=>simp [cells] at h1;exact absurd h1.symm h2
 |fr e sz es=>simp [cells] at h1;exact absurd h1.symm h2
 |int k m=>have e:v= .int k m:=by simpa [aAi] using hx
           exact one v hx rfl (by rw [e];rfl)
 |bool b=>have e:v= .bool b:=by simpa [aAi] using hx
          exact one v hx rfl (by rw [e];rfl)
 |str b=>have e:v= .string b:=by simpa [aAi] using hx
         exact one v hx rfl (by rw [e];rfl)
 |nils=>have e:v= .slice none 0 0:=by simpa [aAi] using hx
        exact one v hx rfl (by rw [e];rfl)
 |nili=>have e:v= .nilIface:=by simpa [aAi] using hx
        exact one v hx rfl (by rw [e];rfl)
 |ro sz es=>
  have hx':=hx
  simp only [aAi] at hx;obtain ⟨A,c,e,_⟩:=hx
  exact one v hx' rfl (by rw [e];rfl)
 |rp cs=>
  have hx':=hx
  simp only [aAi] at hx;obtain ⟨A,e,_⟩:=hx
  exact one v hx' rfl (by rw [e];rfl)
 |fn f cs=>
  have hx':=hx
  simp only [aAi] at hx;obtain ⟨A,e,_⟩:=hx
  exact one v hx' rfl (by rw [e];rfl)
 |iface t y=>
  have hx':=hx
  simp only [aAi] at hx;obtain ⟨A,e,_⟩:=hx
  exact one v hx' rfl (by rw [e];rfl)
 |own p off len=>exact one v hx rfl (by simp only [aAi] at hx;exact hx.1)
 |bptr p c=>exact one v hx rfl (by simp only [aAi] at hx;exact hx.1)
 |ptr p i c=>exact one v hx rfl (by simp only [aAi] at hx;exact hx.1)
 |map p=>exact one v hx rfl (by simp only [aAi] at hx;exact hx.1)
def aDc:List Value->Nat->List Value->List Value
 |cs,0,[]=>cs
 |[],_,_=>[]
 |_::cs,0,x::xs=>x::aDc cs 0 xs
 |c::cs,n+1,xs=>c::aDc cs n xs
theorem aMh {S H w}:∀{cs:List AV}{vs:List Value}(n:Nat){xs:List AV}{us:List Value},aAt S H w cs vs->aAt S H w xs us->aAt S H w (aSi cs n xs) (aDc vs n us)
 |[],vs,0,[],us,h,k=>by simp only [aAt] at h k;subst h k;simp [aSi,aDc,aAt]
 |[],vs,0,x::xs,us,h,k=>by
  simp only [aAt] at h k;subst h;obtain ⟨u,r,rfl,_⟩:=k;simp [aSi,aDc,aAt]
 |[],vs,n+1,xs,us,h,k=>by simp only [aAt] at h;subst h;simp [aSi,aDc,aAt]
 |c::cs,vs,0,[],us,h,k=>by
  simp only [aAt] at k;subst k
  have e:aDc vs 0 []=vs:=by cases vs<;>rfl
  rw [e];exact h
 |c::cs,vs,0,x::xs,us,h,k=>by
  simp only [aAt] at h k
  obtain ⟨v,r,rfl,hv,hr⟩:=h
  obtain ⟨u,q,rfl,hu,hq⟩:=k
  simp only [aSi,aDc,aAt]
  exact ⟨u,_,rfl,hu,aMh 0 hr hq⟩
 |c::cs,vs,n+1,xs,us,h,k=>by
  simp only [aAt] at h
  obtain ⟨v,r,rfl,hv,hr⟩:=h
  simp only [aSi,aDc,aAt]
  exact ⟨v,_,rfl,hv,aMh n hr k⟩
theorem aDp:∀(vs:List Value) (n:Nat) (us:List Value),(aDc vs n us).length=vs.length
 |[],0,[]=>rfl
 |[],0,_::_=>rfl
 |[],_+1,us=>by cases us<;>rfl
 |_::_,0,[]=>rfl
 |v::vs,0,u::us=>by simp [aDc,aDp vs 0 us]
 |v::vs,n+1,us=>by simp [aDc,aDp vs n us]
theorem aJh:∀(vs:List Value) (n:Nat) (us:List Value) (x:Value),x∈aDc vs n us->x∈vs\/x∈us
 |[],0,[],x,h=>by simp [aDc] at h
 |[],0,_::_,x,h=>by simp [aDc] at h
 |[],n+1,us,x,h=>by cases us<;>simp [aDc] at h
 |v::vs,0,[],x,h=>.inl h
 |v::vs,0,u::us,x,h=>by
  simp only [aDc,List.mem_cons] at h ⊢
  rcases h with h|h
  · exact .inr (.inl h)
  · rcases aJh vs 0 us x h with h|h
    · exact .inl (.inr h)
    · exact .inr (.inr h)
 |v::vs,n+1,us,x,h=>by
  simp only [aDc,List.mem_cons] at h ⊢
  rcases h with h|h
  · exact .inl (.inl h)
  · rcases aJh vs n us x h with h|h
    · exact .inl (.inr h)
    · exact .inr h
theorem aG5:∀(vs:List Value) (n:Nat) (us:List Value),n+us.length<=vs.length->aDc vs n us=vs.take n++us++vs.drop (n+us.length)
 |vs,0,[],_=>by cases vs<;>simp [aDc]
 |[],0,u::us,h=>by simp at h
 |v::vs,0,u::us,h=>by
  have:=aG5 vs 0 us (by simp at h ⊢;omega)
  simp [aDc,this]
 |[],n+1,us,h=>by simp at h
 |v::vs,n+1,us,h=>by
  have:=aG5 vs n us (by simp at h ⊢;omega)
  simp [aDc,this,Nat.add_right_comm]
theorem aZu:∀(us:List Value) (k off:Nat) (cur:Array Value),off+k+us.length<=cur.size->
 (us.zipIdx k).foldl (λ(cs:Array Value) (x:Value×Nat)=>cs.setIfInBounds (off+x.2) x.1) cur=(aDc cur.toList (off+k) us).toArray
 |[],k,off,cur,h=>by
  have e:aDc cur.toList (off+k) []=cur.toList:=by
   rw [aG5 _ _ _ (by simpa using h)];simp
  simp [e]
 |u::us,k,off,cur,h=>by
  simp only [List.zipIdx_cons,List.foldl_cons]
  simp only [List.length_cons] at h
  rw [aZu us (k+1) off _ (by simp;omega)]
  congr 1
  rw [aG5 _ _ _ (by simp;omega),aG5 _ _ _ (by simp;omega)]
  have hlt:off+k<cur.toList.length:=by simp;omega
  simp only [Array.toList_setIfInBounds,List.length_cons]
  rw [<- Nat.add_assoc,List.take_succ_eq_append_getElem (by simpa using hlt),List.take_set_of_le (Nat.le_refl _)]
  simp [List.getElem_set,List.drop_set,Nat.add_assoc,Nat.add_comm 1]
theorem bM3 (hr:Opn gl B S H w E a){fs:List (Nat×Nat×Bool)}{place:Nat->Option (Nat×Nat)}(hp:∀(i off n:Nat) (ag:Bool),fs[i]? =some (off,n,ag)->place i=some (off,n)):
 ∀(ps:List (Nat×Operand)) (len:Nat) (cs:List AV) (cur:Array Value),cur.size=len->aAt S H w cs cur.toList->One cur.toList->
  aW5 fs len (ps.map λp=>(p.1,E p.2))=true->
  ∃cur':Array Value,Instr.fill place cur (ps.map λp=>(p.1,a.eval p.2))=some cur'/\aAt S H w (aOu fs cs (ps.map λp=>(p.1,E p.2))) cur'.toList/\One cur'.toList
 |[],len,cs,cur,hn,hl,h1,h=>⟨cur,rfl,hl,h1⟩
 |(i,x)::ps,len,cs,cur,hn,hl,h1,h=>by
  simp only [List.map_cons,aW5] at h
  simp only [List.map_cons,aOu]
  split at h
  · rename_i off n ag hi
    simp only [Bool.and_eq_true] at h
    obtain ⟨⟨hsz,hle⟩,h⟩:=h
    have hle:=Nat.le_of_ble_eq_true hle
    obtain ⟨vs,hv,hvn,hv1,hvl,hn0⟩:=aI3 hsz (hr.ev x)
    have hfold:=aZu vs 0 off cur (by omega)
    have e:((a.eval x).cells.zipIdx.foldl (λcs (x:Value×Nat)=>cs.setIfInBounds (off+x.2) x.1) cur)=(aDc cur.toList off vs).toArray:=by
     rw [hv]
     have:(vs.toArray.zipIdx.foldl (λ(cs:Array Value) (x:Value×Nat)=>cs.setIfInBounds (off+x.2) x.1) cur)=vs.zipIdx.foldl (λ(cs:Array Value) (x:Value×Nat)=>cs.setIfInBounds (off+x.2) x.1) cur:=by
      rw [<- Array.foldl_toList];simp
     rw [this];simpa using hfold
    obtain ⟨cur',hf,hl',h1'⟩:=bM3 hr hp ps len (aSi cs off (cells (E x))) (aDc cur.toList off vs).toArray (by simp [aDp,hn])
     (by simpa using aMh off hl hvl) (λu hu=>by
       rcases aJh _ _ _ u (by simpa using hu) with h|h
       · exact h1 u h
       · exact hv1 u h) h
    refine ⟨cur',?_,by simpa [hi] using hl',h1'⟩
    simp only [Instr.fill,hp i off n ag hi]
    have hs:(a.eval x).cells.size=n:=by rw [hv];simpa using hvn
    rw [if_neg (by simp [hs];omega)]
    rw [<- hf]
    congr 1
  · cases h
theorem aO3 (hT:TOK P T){t:TypeId}(hk:(T.ti t).k≠ .bad) (S:Nat->Prop) (H:Hp) (w:World):
 aAt S H w (T.ti t).zero (T.ti t).zv.cells.toList/\One (T.ti t).zv.cells.toList/\(T.ti t).zv.cells.size=(T.ti t).size/\(T.ti t).zero.length=(T.ti t).size:=by
 have f:=(hT.get hk).zero
 simp only [Bool.and_eq_true] at f
 have f1:=Nat.eq_of_beq_eq_true f.1
 refine ⟨?_,?_,f1,by simp [TI.zero,f1]⟩
 · unfold TI.zero
   generalize (T.ti t).zv.cells.toList=l
   induction l with
   |nil=>rfl
   |cons v r ih=>simp only [List.map_cons,aAt];exact ⟨v,r,rfl,bMp S H w v,ih⟩
 · intro u hu
   have:=f.2
   rw [Array.all_eq_true_iff_forall_mem] at this
   exact this u (by simpa using hu)
theorem aRw (P:Program):∀(l:List Field),(∀ f∈l,(P.info? f.type).isSome=true)->
 l.mapM (λf=>(P.info? f.type).map λi=>(f.offset,i.size))=some (l.map λf=>(f.offset,((P.info? f.type).map (·.size)).getD 0))
 |[],_=>rfl
 |f::l,h=>by
  have hf:=h f (by simp)
  have:=aRw P l λg hg=>h g (List.mem_cons_of_mem _ hg)
  cases hi:P.info? f.type with
  |none=>rw [hi] at hf;cases hf
  |some i=>simp [List.mapM_cons,hi,this]
theorem bOe (hT:TOK P T){t:TypeId}{fs:List (Nat×Nat×Bool)}(h:(T.ti t).k= .strc fs){fl:Array Field}(hu:P.underlying t=some (.struct fl)):
 ∃places:List (Nat×Nat),fl.toList.mapM (λf=>(P.info? f.type).map λi=>(f.offset,i.size))=some places/\∀(i off n:Nat) (ag:Bool),fs[i]? =some (off,n,ag)->places[i]? =some (off,n):=by
 have f:=(hT.get (t:=t) (by rw [h];simp)).kind
 rw [h,hu] at f
 simp only [kok,Bool.and_eq_true,beq_iff_eq,List.all_eq_true] at f
 obtain ⟨f1,f2⟩:=f
 refine ⟨_,aRw P fl.toList λg hg=>(f2 g hg).1,λi off n ag hi=>?_⟩
 rw [<- f1,List.getElem?_map] at hi
 rw [List.getElem?_map]
 cases hfi:fl.toList[i]? with
 |none=>rw [hfi] at hi;cases hi
 |some fd=>
  rw [hfi] at hi
  simp only [Option.map_some,Option.some.injEq,Prod.mk.injEq] at hi ⊢
  exact ⟨hi.1,hi.2.1⟩
theorem bSq (hT:TOK P T) (hr:Opn gl B S H w E a){o:Oper}{t:TypeId}{ps:Array (Nat×Operand)}(ho:o.op= .build t ps) (h:vop P gl T dr o.op E (aAd H.h) n K):Ok1 P gl B S H a w o K:=by
 rw [ho] at h
 simp only [vop] at h
 split at h
 · rename_i fs hk
   have hkb:(T.ti t).k≠ .bad:=by rw [hk];simp
   obtain ⟨fl,hu,hf,hlen⟩:=aXm hT hk
   simp only [aBy] at h
   obtain ⟨hparts,h⟩:=h
   obtain ⟨hz,hz1,hzs,hzl⟩:=aO3 hT hkb S H w
   have hinfo:=(hT.get hkb).info
   cases hi:P.info? t with
   |none=>rw [hi] at hinfo;cases hinfo
   |some it=>
    rw [hi] at hinfo
    simp only [Option.map_some,Option.some.injEq,Prod.mk.injEq] at hinfo
    obtain ⟨hzv,hsz,hby⟩:=hinfo
    obtain ⟨places,hpl,hpp⟩:=bOe hT hk hu
    obtain ⟨cur',hfill,hl',h1'⟩:=bM3 hr (place:=λi=>places.toArray[i]?) (λi off n ag hi=>by simpa using hpp i off n ag hi) ps.toList (T.ti t).zero.length (T.ti t).zero (T.ti t).zv.cells (by rw [hzs,hzl]) hz hz1 hparts
    have hb:P.built t (ps.map λp=>(p.1,a.eval p.2)).toList=some cur':=by
     unfold Program.built
     simp only [hi,hu,hzv,hpl]
     simpa using hfill
    refine aBr hr (u:=.agg cur') ?_ h ?_
    · have:=run_build (P:=P) w t (ps.map λp=>(p.1,a.eval p.2)) cur' hb
      simp [execOp,ho,this]
    · have:=bD9 h1' hl'
      simpa using this
 · exact h.elim
end Go.V
namespace Go.V
open Go.RowKit
variable {P:Program}{gl:Gl}{T:Tab}{B:Base}{S:Nat->Prop}{H:Hp}{a:Act}{w:World}{E:Operand->AV}{n:Nat}{K:AV->List (Nat×Ob)->Prop}{dr:Bool}
theorem bOz (hT:TOK P T){t e:TypeId}(h:(T.ti t).k= .map e):∃k,P.underlying t=some (.map k e)/\P.underlying k=some .string:=by
 have f:=(hT.get (t:=t) (by rw [h];simp)).kind
 rw [h] at f
 cases hu:P.underlying t with
 |none=>rw [hu] at f;cases f
 |some d=>
  rw [hu] at f
  cases d with
  |map k e'=>
   simp only [kok,Bool.and_eq_true] at f
   have:=Nat.eq_of_beq_eq_true f.1
   subst this
   refine ⟨k,rfl,?_⟩
   cases hk:P.underlying k with
   |none=>rw [hk] at f;simp at f
   |some d=>rw [hk] at f;cases d<;>simp at f ⊢
  |_=>cases f
theorem aOx (x k:ByteArray):(x=k->Instr.sameNow .string (.string x) (.string k)=some true)/\(x≠k->Instr.sameNow .string (.string x) (.string k)=some false):=by
 obtain ⟨r,hr,hiff⟩:=MapKept.sameNow_of_keys (d:=.string) (a:=.string x) (b:=.string k) (by simp [MapKept.IsKey]) (by simp [MapKept.IsKey])
 refine ⟨λe=>?_,λe=>?_⟩
 · rw [hr];congr 1;exact hiff.2 (by rw [e])
 · rw [hr];congr 1
   cases r with
   |false=>rfl
   |true=>exact absurd (by have:=hiff.1 rfl;simpa using this) e
theorem aQh {S H w} (x:ByteArray):∀(l:List (ByteArray×AV)) (es:List MapEntry) (i:Nat),aC6 S H w l es->
 (aEz l x=none/\Instr.findNow .string (.string x) es i=some none)\/
 ∃v u j,aEz l x=some v/\Instr.findNow .string (.string x) es i=some (some (i+j,u))/\aAi S H w v u/\j<es.length
 |[],es,i,h=>by simp only [aC6] at h;subst h;exact .inl ⟨rfl,rfl⟩
 |(k,v)::r,es,i,h=>by
  simp only [aC6] at h
  obtain ⟨u,b,es',rfl,hv,hr⟩:=h
  by_cases e:x=k
  · exact .inr ⟨v,u,0,by simp [aEz,e],by simp [Instr.findNow,(aOx x k).1 e],hv,by simp⟩
  · have hs:=(aOx x k).2 e
    rcases aQh x r es' (i+1) hr with ⟨h1,h2⟩|⟨v',u',j,h1,h2,h3,h4⟩
    · exact .inl ⟨by simp [aEz,e,h1],by simp [Instr.findNow,hs,h2]⟩
    · refine .inr ⟨v',u',j+1,by simp [aEz,e,h1],?_,h3,by simp;omega⟩
      simp only [Instr.findNow,hs,h2]
      rw [show i+1+j=i+(j+1) by omega]
theorem bN8 (hT:TOK P T) (hr:Opn gl B S H w E a){o:Oper}{t:TypeId}{x i:Operand}{ok:Bool}(ho:o.op= .lookup t x i ok) (h:vop P gl T dr o.op E (aAd H.h) n K):Ok1 P gl B S H a w o K:=by
 rw [ho] at h
 simp only [vop] at h
 have hx:=hr.ev x
 have hi:=hr.ev i
 split at h
 · rename_i e hk
   obtain ⟨kt,hu,huk⟩:=bOz hT hk
   split at h
   · exact h.elim
   · rename_i hke
     have hke:(T.ti e).k≠ .bad:=λeb=>hke eb
     split at h
     · rename_i p k e1 e2
       split at h
       · rename_i l hg
         rw [e1] at hx;rw [e2] at hi;simp only [aAi] at hx hi
         have hv:=hx.2.2 _ (aPo hg)
         obtain ⟨es,c,hb,hl,hs⟩:=hr.wd.ok.kv p l hg
         have hzero:(zeroValue e).run P w= .ok (T.ti e).zv w:=by
          have f:=(hT.get hke).info
          cases hi':P.info? e with
          |none=>rw [hi'] at f;cases f
          |some it=>
           rw [hi'] at f
           simp only [Option.map_some,Option.some.injEq,Prod.mk.injEq] at f
           simp [zeroValue,typeInfo,hi',f.1]
         have hck:(Instr.checkKey es.isEmpty 10000 kt (.string k)).run P w= .ok () w:=MapKept.run_checkKey (k:=.string k) huk (by simp [MapKept.IsKey]) _ 9999
         have key:∃u,(Instr.lookup t (.map (some (H.β p))) (.string k) false).run P w= .ok u w/\(Instr.lookup t (.map (some (H.β p))) (.string k) true).run P w= .ok (.tuple #[u,.bool (aEz l k).isSome]) w/\aAi S H w ((aEz l k).getD (cav (T.ti e).zv)) u:=by
          rcases aQh k l es.toList 0 hl with ⟨h1,h2⟩|⟨v,u,j,h1,h2,h3,h4⟩
          · refine ⟨(T.ti e).zv,?_,?_,by rw [h1];exact bMp S H w _⟩<;>
             simp [Instr.lookup,run_underlying hu,MapKept.run_getObj_map hb,hck,MapKept.run_findKey huk h2,hzero,h1]
          · refine ⟨u,?_,?_,by rw [h1];exact h3⟩<;>
             simp [Instr.lookup,run_underlying hu,MapKept.run_getObj_map hb,hck,MapKept.run_findKey huk h2,h1]
         obtain ⟨u,k1,k2,k3⟩:=key
         cases ok with
         |false=>
          obtain ⟨r,rfl,h⟩:=h
          exact aBr hr (u:=u) (by simp [execOp,ho,hv,hi,k1]) h k3
         |true=>
          obtain ⟨r,b,rfl,rfl,h⟩:=h
          refine aBr hr (u:=.tuple #[u,.bool (aEz l k).isSome]) (by simp [execOp,ho,hv,hi,k2]) h ?_
          exact bXq (vs:=[u,.bool (aEz l k).isSome]) (by simp only [aAt];exact ⟨u,_,rfl,k3,_,_,rfl,aE5 _,rfl⟩)
       · exact h.elim
     · exact h.elim
 · exact h.elim
end Go.V
namespace Go.V
open Go.RowKit
variable {P:Program}{gl:Gl}{T:Tab}{B:Base}{S:Nat->Prop}{H:Hp}{a:Act}{w:World}
theorem aBx:∀(l:List Ob) (x:Ob) (p q:Nat),aAd (aGr l p x) q=if q=p then x else aAd l q
 |[],x,0,0=>rfl
 |[],x,0,q+1=>by simp [aGr,aAd]
 |[],x,p+1,0=>by simp [aGr,aAd]
 |[],x,p+1,q+1=>by simp [aGr,aAd,aBx [] x p q]
 |o::l,x,0,0=>by simp [aGr,aAd]
 |o::l,x,0,q+1=>by simp [aGr,aAd]
 |o::l,x,p+1,0=>by simp [aGr,aAd]
 |o::l,x,p+1,q+1=>by simp [aGr,aAd,aBx l x p q]
theorem aOl:∀(l:List Ob) (p:Nat),l.length<=p->aAd l p= .dead
 |[],p,_=>rfl
 |o::l,0,h=>by simp at h
 |o::l,p+1,h=>aOl l p (by simp at h;omega)
theorem aMl:∀(d d':List (Nat×Ob)) (h:List Ob),aDf h (d++d')=aDf (aDf h d) d'
 |[],d',h=>rfl
 |(p,o)::d,d',h=>aMl d d' _
theorem Later.trans {S H w S' H' w' S'' H'' w''} (L:Later S H w S' H' w') (L':Later S' H' w' S'' H'' w''):Later S H w S'' H'' w'':=
 ⟨λb hb hlt=>by
   obtain ⟨h1,h2⟩:=L.blk b hb hlt
   obtain ⟨h3,h4⟩:=L'.blk b h1 (Nat.lt_of_lt_of_le hlt L.size)
   exact ⟨h3,h4.trans h2⟩,Nat.le_trans L.size L'.size,λp hp=>by
   obtain ⟨h1,h2⟩:=L.ob p hp
   obtain ⟨h3,h4⟩:=L'.ob p h1
   refine ⟨h3,λs hs=>?_⟩
   obtain ⟨k1,k2,k3⟩:=h4 s hs
   obtain ⟨l1,l2,l3⟩:=h2 s k1
   exact ⟨l1,k2.trans l2,k3.trans l3⟩⟩
theorem Eff.trans {S' H' w' S'' H'' w'' d d'} (h:Eff gl B S H w S' H' w' d) (h':Eff gl B S' H' w' S'' H'' w'' d'):Eff gl B S H w S'' H'' w'' (d++d'):=
 ⟨by rw [h'.hh,h.hh,aMl],h'.wd,h.later.trans h'.later⟩
theorem aO7.later {S S':Nat->Prop}{w w':World}{b cap e sz:Nat}{es:List (List AV)}(L:Later S H0 w S' H0 w') (hb:w'.heap[b]? =w.heap[b]?) (h:aO7 S w b cap e sz es):aO7 S' w' b cap e sz es:=by
 obtain ⟨cur,vss,hh,rest⟩:=h
 exact ⟨cur,vss,hb.trans hh,rest.1,rest.2.1,rest.2.2.1,rest.2.2.2.1,aAr.later L es vss rest.2.2.2.2.1,rest.2.2.2.2.2⟩
theorem aC6.later {S S' H H' w w'} (L:Later S H w S' H' w'):∀(l:List (ByteArray×AV)) (es:List MapEntry),aC6 S H w l es->aC6 S' H' w' l es
 |[],es,h=>by simpa [aC6] using h
 |(k,x)::r,es,h=>by
  simp only [aC6] at h ⊢
  obtain ⟨v,b,es',e,hv,hr⟩:=h
  exact ⟨v,b,es',e,aAi.later L x v hv,aC6.later L r es' hr⟩
theorem bJk.later {S S' H H' w w'} (L:Later S H w S' H' w'){gl:Gl}(h:bJk S w gl):bJk S' w' gl:=
 λg cs hm=>by
  obtain ⟨h1,c,e,f,h2,h3⟩:=h g cs hm
  refine ⟨aAi.later L.zero _ _ h1,c,e,f,?_,h3⟩
  simp only [aAi] at h1
  obtain ⟨a,ea,hs,hb,_⟩:=h1
  cases ea
  rw [(L.blk g hs hb).2];exact h2
theorem aCc (hok:HeapOK S B H w){p:Nat}{s:Nat×Nat}(h:H.at p=some (some s)):H.β p<w.heap.size:=by
 unfold Hp.at at h
 cases ho:aAd H.h p with
 |dead=>rw [ho] at h;cases h
 |gone=>rw [ho] at h;cases h
 |box t cs=>obtain ⟨vs,hh,_⟩:=hok.box p t cs ho;exact (Array.getElem?_eq_some_iff.1 hh).1
 |row fz e sz es=>obtain ⟨⟨cur,vss,hh,_⟩,_⟩:=hok.row p fz e sz es ho;exact (Array.getElem?_eq_some_iff.1 hh).1
 |kv l=>obtain ⟨es,c,hh,_⟩:=hok.kv p l ho;exact (Array.getElem?_eq_some_iff.1 hh).1
 |iter x k=>exact (Array.getElem?_eq_some_iff.1 (hok.it p x k ho).1).1
theorem aT1 (h:Wd gl B S H w){w':World}(X:Nat->Prop) (hX:∀k,X k->¬S k/\(∀ q s,H.at q=some (some s)->H.β q≠k)/\(B.w0.heap.size<=k\/B.M k)) (os:w'.os=w.os) (tape:w'.tape=w.tape) (output:w'.output=w.output) (size:w.heap.size<=w'.heap.size)
 (block:∀k,k<w.heap.size->¬X k->w'.heap[k]? =w.heap[k]?):Eff gl B S H w S H w' []:=by
 have L:Later S H w S H w':=⟨λb hb hlt=>⟨hb,block b hlt λhx=>(hX b hx).1 hb⟩,size,λp hp=>⟨hp,λs hs=>⟨hs,rfl,rfl⟩⟩⟩
 refine ⟨rfl,⟨⟨λb hb=>Nat.lt_of_lt_of_le (h.ok.sb b hb) size,?_,?_,?_,h.ok.inj,?_,h.ok.mine⟩,⟨os.trans h.kept.os,tape.trans h.kept.tape,output.trans h.kept.output,Nat.le_trans h.kept.size size,?_⟩,h.gl.later L,h.bs,h.sup⟩,L⟩
 · intro p fz e sz es ho
   obtain ⟨h1,h2⟩:=h.ok.row p fz e sz es ho
   exact ⟨h1.later L.zero (block _ (aCc h.ok (aCk ho)) λhx=>(hX _ hx).2.1 _ _ (aCk ho) rfl),h2⟩
 · intro p t cs ho
   obtain ⟨vs,h1,h2,h3,h4⟩:=h.ok.box p t cs ho
   exact ⟨vs,(block _ (aCc h.ok (aIn ho)) λhx=>(hX _ hx).2.1 _ _ (aIn ho) rfl).trans h1,h2,aAt.later L cs vs h3,h4⟩
 · intro p l ho
   obtain ⟨es,c,h1,h2,h3⟩:=h.ok.kv p l ho
   exact ⟨es,c,(block _ (aCc h.ok (aPo ho)) λhx=>(hX _ hx).2.1 _ _ (aPo ho) rfl).trans h1,aC6.later L l _ h2,h3⟩
 · intro p x k ho
   obtain ⟨h1,h2⟩:=h.ok.it p x k ho
   exact ⟨(block _ (aCc h.ok (aHe ho)) λhx=>(hX _ hx).2.1 _ _ (aHe ho) rfl).trans h1,h2⟩
 · intro k hk hm
   rw [block k (Nat.lt_of_lt_of_le hk h.kept.size) λhx=>by rcases (hX k hx).2.2 with hx|hx;exact absurd hk (Nat.not_lt.2 hx);exact hm hx]
   exact h.kept.block k hk hm
theorem aLz (h:Wd gl B S H w){w':World}(os:w'.os=w.os) (tape:w'.tape=w.tape) (output:w'.output=w.output) (size:w.heap.size<=w'.heap.size)
 (block:∀k,k<w.heap.size->w'.heap[k]? =w.heap[k]?):Eff gl B S H w S H w' []:=
 aT1 h (λ_=>False) (λ_ hk=>hk.elim) os tape output size λk hk _=>block k hk
def aUw (S:Nat->Prop) (H:Hp) (w:World) (o:Option Obj) (cap:Nat):Ob->Prop
 | .row fz e sz es=>fz=false/\∃(cur:Array Value) (vss:List (List Value)),o=some (.cells cur e (0,0))/\cur.size=cap*sz/\0<sz/\es.length<=cap/\cap<=maxLen/\
   aAr S w es vss/\(∀ vs∈vss,vs.length=sz/\One vs)/\cur.toList.take (es.length*sz)=vss.flatten
 | .box t cs=>∃vs:List Value,o=some (.cells vs.toArray t (0,0))/\One vs/\aAt S H w cs vs
 | .kv l=>∃(es:Array MapEntry) (c:Nat),o=some (.map es c)/\aC6 S H w l es.toList
 | .iter x k=>o=some (.stringIter x k)
 |_=>False
theorem bUg (h:Wd gl B S H w){w':World}{H':Hp}{p:Nat}{ob:Ob}(hh:H'.h=aGr H.h p ob) (hβ:∀q,q≠p->H'.β q=H.β q) (hκ:∀q,q≠p->H'.κ q=H.κ q)
 (os:w'.os=w.os) (tape:w'.tape=w.tape) (output:w'.output=w.output) (size:w'.heap.size=w.heap.size) (block:∀k,k≠H'.β p->w'.heap[k]? =w.heap[k]?)
 (L:Later S H w S H' w') (hS:¬S (H'.β p)) (hd:∀q s,q≠p->H.at q=some (some s)->H.β q≠H'.β p) (hm:B.w0.heap.size<=H'.β p\/B.M (H'.β p))
 (hn:aUw S H w (w'.heap[H'.β p]?) (H'.κ p) ob):Wd gl B S H' w':=by
 have new:aAd H'.h p=ob:=by rw [hh,aBx,if_pos rfl]
 have old:∀q,q≠p->aAd H'.h q=aAd H.h q:=λq hq=>by rw [hh,aBx,if_neg hq]
 refine ⟨⟨λb hb=>by rw [size];exact h.ok.sb b hb,?_,?_,?_,?_,?_,?_⟩,⟨os.trans h.kept.os,tape.trans h.kept.tape,output.trans h.kept.output,by rw [size];exact h.kept.size,?_⟩,h.gl.later L,h.bs,h.sup⟩
 · intro q fz e sz es ho
   by_cases hq:q=p
   · subst hq
     rw [new] at ho;subst ho
     obtain ⟨rfl,cur,vss,k1,k2,k3,k4,k5,k6,k7,k8⟩:=hn
     exact ⟨⟨cur,vss,k1,k2,k3,k4,k5,aAr.later L.zero _ _ k6,k7,k8⟩,by simp [hS]⟩
   · rw [old q hq] at ho
     obtain ⟨h1,h2⟩:=h.ok.row q fz e sz es ho
     rw [hβ q hq,hκ q hq]
     exact ⟨h1.later L.zero (block _ (hd q _ hq (aCk ho))),h2⟩
 · intro q t cs ho
   by_cases hq:q=p
   · subst hq
     rw [new] at ho;subst ho
     obtain ⟨vs,k1,k2,k3⟩:=hn
     exact ⟨vs,k1,k2,aAt.later L _ _ k3,hS⟩
   · rw [old q hq] at ho
     obtain ⟨vs,h1,h2,h3,h4⟩:=h.ok.box q t cs ho
     rw [hβ q hq]
     exact ⟨vs,(block _ (hd q _ hq (aIn ho))).trans h1,h2,aAt.later L cs vs h3,h4⟩
 · intro q l ho
   by_cases hq:q=p
   · subst hq
     rw [new] at ho;subst ho
     obtain ⟨es,c,k1,k2⟩:=hn
     exact ⟨es,c,k1,aC6.later L _ _ k2,hS⟩
   · rw [old q hq] at ho
     obtain ⟨es,c,h1,h2,h3⟩:=h.ok.kv q l ho
     rw [hβ q hq]
     exact ⟨es,c,(block _ (hd q _ hq (aPo ho))).trans h1,aC6.later L l _ h2,h3⟩
 · intro q r s s' hq hr he hnS
   have un:∀q,q≠p->∀s,H'.at q=some s->H.at q=some s:=λq hq s hs=>by unfold Hp.at at hs ⊢;rw [old q hq] at hs;exact hs
   by_cases e1:q=p<;>by_cases e2:r=p
   · exact e1.trans e2.symm
   · subst e1
     rw [hβ r e2] at he
     exact absurd he.symm (hd r _ e2 (un r e2 _ hr))
   · subst e2
     rw [hβ q e1] at he
     exact absurd he (hd q _ e1 (un q e1 _ hq))
   · rw [hβ q e1,hβ r e2] at he
     rw [hβ q e1] at hnS
     exact h.ok.inj q r s s' (un q e1 _ hq) (un r e2 _ hr) he hnS
 · intro q x k ho
   by_cases hq:q=p
   · subst hq
     rw [new] at ho;subst ho
     exact ⟨hn,hS⟩
   · rw [old q hq] at ho
     obtain ⟨h1,h2⟩:=h.ok.it q x k ho
     rw [hβ q hq]
     exact ⟨(block _ (hd q _ hq (aHe ho))).trans h1,h2⟩
 · intro q s hq hns
   by_cases e1:q=p
   · subst e1;exact hm
   · rw [hβ q e1] at hns ⊢
     refine h.ok.mine q s (by unfold Hp.at at hq ⊢;rw [old q e1] at hq;exact hq) hns
 · intro k hk hM
   have:k≠H'.β p:=by
    rintro rfl
    rcases hm with hm|hm
    · omega
    · exact hM hm
   rw [block k this]
   exact h.kept.block k hk hM
def Hp.put (H:Hp) (n:Nat) (ob:Ob) (b cap:Nat):Hp:=⟨aGr H.h n ob,λp=>if p=n then b else H.β p,λp=>if p=n then cap else H.κ p⟩
def Hp.upd (H:Hp) (p:Nat) (ob:Ob):Hp:=⟨aGr H.h p ob,H.β,H.κ⟩
theorem aV5 (h:Wd gl B S H w){n:Nat}{ob:Ob}{b cap:Nat}(hd:aAd H.h n= .dead) (hS:¬S b) (hβ:∀q s,H.at q=some (some s)->H.β q≠b) (hm:B.w0.heap.size<=b\/B.M b)
 (hn:aUw S H w (w.heap[b]?) cap ob):Eff gl B S H w S (H.put n ob b cap) w [(n,ob)]:=by
 have L:Later S H w S (H.put n ob b cap) w:=⟨λb hb _=>⟨hb,rfl⟩,Nat.le_refl _,λp hp=>by
  have hne:p≠n:=λe=>hp (by subst e;simp [Hp.at,hd,Ob.sz])
  have e:(H.put n ob b cap).at p=H.at p:=by simp [Hp.at,Hp.put,aBx,hne]
  rw [e]
  exact ⟨hp,λs hs=>⟨hs,by simp [Hp.put,hne],by simp [Hp.put,hne]⟩⟩⟩
 refine ⟨rfl,bUg h (p:=n) rfl (λq hq=>by simp [Hp.put,hq]) (λq hq=>by simp [Hp.put,hq]) rfl rfl rfl rfl (λ_ _=>rfl) L (by simpa [Hp.put] using hS) (λq s hq hs=>by simpa [Hp.put] using hβ q s hs) (by simpa [Hp.put] using hm) (by simpa [Hp.put] using hn),L⟩
theorem aUw.later {S':Nat->Prop}{H':Hp}{w':World}(L:Later S H w S' H' w'){o:Option Obj}{cap:Nat}:∀{ob:Ob},aUw S H w o cap ob->aUw S' H' w' o cap ob
 | .row fz e sz es,h=>by
   obtain ⟨h0,cur,vss,k1,k2,k3,k4,k5,k6,k7,k8⟩:=h
   exact ⟨h0,cur,vss,k1,k2,k3,k4,k5,aAr.later L.zero _ _ k6,k7,k8⟩
 | .box t cs,h=>by
   obtain ⟨vs,k1,k2,k3⟩:=h
   exact ⟨vs,k1,k2,aAt.later L _ _ k3⟩
 | .kv l,h=>by
   obtain ⟨es,c,k1,k2⟩:=h
   exact ⟨es,c,k1,aC6.later L _ _ k2⟩
 | .iter _ _,h=>h
 | .dead,h=>h.elim
 | .gone,h=>h.elim
theorem aF8 (h:Wd gl B S H w){n:Nat}{ob:Ob}{cap:Nat}(hd:aAd H.h n= .dead) (o:Obj) (hn:aUw S H w (some o) cap ob):
 Eff gl B S H w S (H.put n ob w.heap.size cap) (w.alloc o) [(n,ob)]:=by
 have E1:=aLz h (w':=w.alloc o) rfl rfl rfl (by simp) (λk hk=>Below.heap_alloc w o k hk)
 have E2:=aV5 E1.wd (b:=w.heap.size) (cap:=cap) hd (λhs=>Nat.lt_irrefl _ (h.ok.sb _ hs)) (λq s hq e=>Nat.lt_irrefl _ (e ▸ aCc h.ok hq)) (.inl h.kept.size)
  (by rw [heap_alloc_new];exact hn.later E1.later)
 exact E1.trans E2
theorem aQe (h:Wd gl B S H w){w':World}{p:Nat}{ob:Ob}{s:Nat×Nat}(hat:H.at p=some (some s)) (hsz:ob.sz=some (some s)) (os:w'.os=w.os) (tape:w'.tape=w.tape) (output:w'.output=w.output)
 (size:w'.heap.size=w.heap.size) (block:∀k,k≠H.β p->w'.heap[k]? =w.heap[k]?) (hS:¬S (H.β p))
 (hn:aUw S H w (w'.heap[H.β p]?) (H.κ p) ob):Eff gl B S H w S (H.upd p ob) w' [(p,ob)]:=by
 have L:Later S H w S (H.upd p ob) w':=⟨λb hb _=>⟨hb,block b (λe=>hS (e ▸ hb))⟩,by rw [size];exact Nat.le_refl _,λq hq=>by
  have e:(H.upd p ob).at q=H.at q:=by
   by_cases hqp:q=p
   · subst hqp;rw [hat];simp [Hp.at,Hp.upd,aBx,hsz]
   · simp [Hp.at,Hp.upd,aBx,hqp]
  rw [e]
  exact ⟨hq,λs hs=>⟨hs,rfl,rfl⟩⟩⟩
 exact ⟨rfl,bUg h (p:=p) rfl (λ_ _=>rfl) (λ_ _=>rfl) os tape output size block L hS (λq s' hq hs e=>hq (h.ok.inj q p s' s hs hat e (e ▸ hS))) (h.ok.mine p s hat hS) hn,L⟩
theorem bWe (h:Wd gl B S H w){p:Nat}{fz e sz es} (ho:aAd H.h p= .row fz e sz es):
 Eff gl B S H w (λb=>S b\/b=H.β p) (H.upd p (.row true e sz es)) w [(p,.row true e sz es)]:=by
 have hat:=aCk ho
 have hget:∀q,aAd (H.upd p (.row true e sz es)).h q=if q=p then .row true e sz es else aAd H.h q:=λq=>by simp [Hp.upd,aBx]
 have hatq:∀q,(H.upd p (.row true e sz es)).at q=H.at q:=λq=>by
  by_cases hqp:q=p
  · subst hqp;rw [hat];simp [Hp.at,hget,Ob.sz]
  · simp [Hp.at,hget,hqp]
 have L:Later S H w (λb=>S b\/b=H.β p) (H.upd p (.row true e sz es)) w:=⟨λb hb _=>⟨.inl hb,rfl⟩,Nat.le_refl _,λq hq=>by
  rw [hatq];exact ⟨hq,λs hs=>⟨hs,rfl,rfl⟩⟩⟩
 refine ⟨rfl,⟨⟨?_,?_,?_,?_,?_,?_,?_⟩,h.kept,h.gl.later L,λb hb=>hb.elim (h.bs b) λe=>by
  subst e
  by_cases hs:S (H.β p)
  · exact h.bs _ hs
  · exact .inr (h.ok.mine p _ hat hs),λb hb=>.inl (h.sup b hb)⟩,L⟩
 · rintro b (hb|rfl)
   · exact h.ok.sb b hb
   · exact aCc h.ok hat
 · intro q fz' e' sz' es' hq
   rw [hget] at hq
   split at hq
   · rename_i e1;subst e1
     cases hq
     obtain ⟨h1,h2⟩:=h.ok.row _ _ _ _ _ ho
     exact ⟨h1.later L.zero rfl,by simp [Hp.upd]⟩
   · rename_i hne
     obtain ⟨h1,h2⟩:=h.ok.row q _ _ _ _ hq
     refine ⟨h1.later L.zero rfl,?_⟩
     show (S (H.β q)\/H.β q=H.β p)↔_
     rw [<- h2]
     exact ⟨λhh=>hh.elim id λe=>Classical.byContradiction λhn=>hne (h.ok.inj q p _ _ (aCk hq) hat e hn),.inl⟩
 · intro q t cs hq
   rw [hget] at hq
   split at hq
   · cases hq
   · rename_i hne
     obtain ⟨vs,h1,h2,h3,h4⟩:=h.ok.box q t cs hq
     refine ⟨vs,h1,h2,aAt.later L cs vs h3,?_⟩
     rintro (hh|hh)
     · exact h4 hh
     · exact hne (h.ok.inj q p _ _ (aIn hq) hat hh h4)
 · intro q l hq
   rw [hget] at hq
   split at hq
   · cases hq
   · rename_i hne
     obtain ⟨es',c,h1,h2,h3⟩:=h.ok.kv q l hq
     refine ⟨es',c,h1,aC6.later L l _ h2,?_⟩
     rintro (hh|hh)
     · exact h3 hh
     · exact hne (h.ok.inj q p _ _ (aPo hq) hat hh h3)
 · intro q r s s' hq hr he hn
   rw [hatq] at hq hr
   exact h.ok.inj q r s s' hq hr he λhs=>hn (.inl hs)
 · intro q x k hq
   rw [hget] at hq
   split at hq
   · cases hq
   · rename_i hne
     obtain ⟨h1,h2⟩:=h.ok.it q x k hq
     refine ⟨h1,?_⟩
     rintro (hh|hh)
     · exact h2 hh
     · exact hne (h.ok.inj q p _ _ (aHe hq) hat hh h2)
 · intro q s hq hns
   rw [hatq] at hq
   exact h.ok.mine q s hq λh=>hns (.inl h)
theorem bR7 (h:Wd gl B S H w){p:Nat}:Eff gl B S H w S (H.upd p .gone) w [(p,.gone)]:=by
 have hget:∀q,aAd (H.upd p .gone).h q=if q=p then .gone else aAd H.h q:=λq=>by simp [Hp.upd,aBx]
 have L:Later S H w S (H.upd p .gone) w:=⟨λb hb _=>⟨hb,rfl⟩,Nat.le_refl _,λq hq=>by
  unfold Hp.at;rw [hget]
  split
  · exact ⟨by simp [Ob.sz],by simp [Ob.sz]⟩
  · exact ⟨hq,λs hs=>⟨hs,rfl,rfl⟩⟩⟩
 have un:∀q s,(H.upd p .gone).at q=some (some s)->H.at q=some (some s):=λq s hs=>by
  unfold Hp.at at hs ⊢;rw [hget] at hs
  split at hs
  · cases hs
  · exact hs
 refine ⟨rfl,⟨⟨h.ok.sb,?_,?_,?_,λq r s s' hq hr he hn=>h.ok.inj q r s s' (un _ _ hq) (un _ _ hr) he hn,?_,λq s hq hns=>h.ok.mine q s (un _ _ hq) hns⟩,h.kept,h.gl.later L,h.bs,h.sup⟩,L⟩
 · intro q fz e sz es hq
   rw [hget] at hq
   split at hq
   · cases hq
   · obtain ⟨h1,h2⟩:=h.ok.row q _ _ _ _ hq
     exact ⟨h1.later L.zero rfl,h2⟩
 · intro q t cs hq
   rw [hget] at hq
   split at hq
   · cases hq
   · obtain ⟨vs,h1,h2,h3,h4⟩:=h.ok.box q t cs hq
     exact ⟨vs,h1,h2,aAt.later L cs vs h3,h4⟩
 · intro q l hq
   rw [hget] at hq
   split at hq
   · cases hq
   · obtain ⟨es,c,h1,h2,h3⟩:=h.ok.kv q l hq
     exact ⟨es,c,h1,aC6.later L l _ h2,h3⟩
 · intro q x k hq
   rw [hget] at hq
   split at hq
   · cases hq
   · exact h.ok.it q x k hq
end Go.V
namespace Go.V
open Go.RowKit
variable {P:Program}{gl:Gl}{T:Tab}{B:Base}{S:Nat->Prop}{H:Hp}{a:Act}{w:World}
def aGs (G G':Nat->Ob):Prop:=∀p fz e sz es,G p= .row fz e sz es->∃fz',G' p= .row fz' e sz es
theorem aLy (G:Nat->Ob):∀(ps:List Nat){S:Nat->Prop}{H:Hp},Wd gl B S H w->aGs G (aAd H.h)->
 ∃S' H',Eff gl B S H w S' H' w (bIj G ps)/\(∀ p∈ps,∀fz e sz es,G p= .row fz e sz es->S' (H'.β p))/\H'.β=H.β/\H'.κ=H.κ/\aGs G (aAd H'.h)/\(∀ q,q ∉ ps->aAd H'.h q=aAd H.h q)/\
  (∀ q,¬(∃ fz e sz es,G q= .row fz e sz es)->aAd H'.h q=aAd H.h q)/\∀b,S' b->S b\/∃p∈ps,∃fz e sz es,G p= .row fz e sz es/\b=H.β p
 |[],S,H,h,hs=>⟨S,H,Eff.refl h,by simp,rfl,rfl,hs,by simp,by simp,λb hb=>.inl hb⟩
 |p::ps,S,H,h,hs=>by
  cases hp:G p with
  |row fz e sz es=>
   obtain ⟨fz',ho⟩:=hs p fz e sz es hp
   have E1:=bWe h ho
   have hget:∀q,aAd (H.upd p (.row true e sz es)).h q=if q=p then .row true e sz es else aAd H.h q:=λq=>by simp [Hp.upd,aBx]
   have hs':aGs G (aAd (H.upd p (.row true e sz es)).h):=λq fz e' sz' es' hq=>by
    rw [hget]
    split
    · rename_i e1;subst e1;rw [hp] at hq;cases hq;exact ⟨true,rfl⟩
    · exact hs q _ _ _ _ hq
   obtain ⟨S',H',E2,h1,h2,h3,h4,h5,h6,h7⟩:=aLy G ps E1.wd hs'
   refine ⟨S',H',by simp only [bIj,hp];exact E1.trans E2,?_,h2,h3,h4,?_,?_,?_⟩
   · intro q hq
     simp only [List.mem_cons] at hq
     rcases hq with rfl|hq
     · intro _ _ _ _ _
       rw [h2]
       exact (E2.later.blk _ (.inr rfl) (aCc h.ok (aCk ho))).1
     · exact h1 q hq
   · intro q hq
     simp only [List.mem_cons,not_or] at hq
     rw [h5 q hq.2,hget,if_neg hq.1]
   · intro q hq
     rw [h6 q hq,hget,if_neg]
     rintro rfl
     exact hq ⟨_,_,_,_,hp⟩
   · intro b hb
     rcases h7 b hb with (hb|rfl)|⟨q,hq,fz,e',sz',es',hg,rfl⟩
     · exact .inl hb
     · exact .inr ⟨p,by simp,_,_,_,_,hp,rfl⟩
     · exact .inr ⟨q,by simp [hq],_,_,_,_,hg,rfl⟩
  |_=>
   obtain ⟨S',H',E2,h1,h2,h3,h4,h5,h6,h7⟩:=aLy G ps h hs
   refine ⟨S',H',by simp only [bIj,hp];exact E2,?_,h2,h3,h4,?_,h6,?_⟩
   · intro q hq
     simp only [List.mem_cons] at hq
     rcases hq with rfl|hq
     · intro _ _ _ _ hc;rw [hp] at hc;cases hc
     · exact h1 q hq
   · intro q hq
     simp only [List.mem_cons,not_or] at hq
     exact h5 q hq.2
   · intro b hb
     rcases h7 b hb with hb|⟨q,hq,fz,e',sz',es',hg,rfl⟩
     · exact .inl hb
     · exact .inr ⟨q,by simp [hq],_,_,_,_,hg,rfl⟩
theorem aGs.refl (G:Nat->Ob):aGs G G:=λp fz e sz es h=>⟨fz,h⟩
def bGr (S:Nat->Prop) (H:Hp) (S':Nat->Prop) (ps:List Nat):Prop:=(∀ b,S b->S' b)/\∀p∈ps,∀fz e sz es,aAd H.h p= .row fz e sz es->S' (H.β p)
def aUv (S:Nat->Prop) (H:Hp) (S':Nat->Prop) (ps:List Nat):Prop:=bGr S H S' ps/\∀p∈ps,∀t cs,aAd H.h p= .box t cs->S' (H.β p)
theorem bGr.mono {S H S' ps ps'} (h:bGr S H S' ps) (hs:∀p∈ps',p∈ps):bGr S H S' ps':=⟨h.1,λp hp=>h.2 p (hs p hp)⟩
theorem aUv.mono {S H S' ps ps'} (h:aUv S H S' ps) (hs:∀p∈ps',p∈ps):aUv S H S' ps':=⟨h.1.mono hs,λp hp=>h.2 p (hs p hp)⟩
theorem bGr.later {S':Nat->Prop}{ps:List Nat}(h:bGr S H S' ps):Later S H w S' H w:=⟨λb hb _=>⟨h.1 b hb,rfl⟩,Nat.le_refl _,λp hp=>⟨hp,λs hs=>⟨hs,rfl,rfl⟩⟩⟩
theorem bGr.later0 {S':Nat->Prop}{ps:List Nat}(h:bGr S H S' ps):Later S H0 w S' H0 w:=⟨λb hb _=>⟨h.1 b hb,rfl⟩,Nat.le_refl _,λp hp=>absurd (aY0 p) hp⟩
theorem aW4 {S':Nat->Prop}(hok:HeapOK S B H w){p off len:Nat}{v:Value}{fz e sz es} (hl:bGr S H S' [p]) (ho:aAd H.h p= .row fz e sz es) (h:aAi S H w (.own p off len) v):
 aAi S' H0 w (.ro sz ((es.drop off).take len)) v:=by
 have hat:=aCk ho
 simp only [aAi] at h
 obtain ⟨hv,hle⟩:=h.2.2 _ hat
 simp only at hv hle
 obtain ⟨⟨cur,vss,hh,hcs,h0,hn,hm,hll,hz,ht⟩,_⟩:=hok.row p fz e sz es ho
 have hlen:((es.drop off).take len).length=len:=by simp;omega
 simp only [aAi]
 refine ⟨_,_,by rw [hlen];exact hv,by rw [hlen];omega,by omega,.inr ⟨_,rfl,hl.2 p (by simp) _ _ _ _ ho,aCc hok hat,(vss.drop off).take len,aAr.later hl.later0 _ _ (aAr.take _ (aAr.drop _ hll)),λvs hvs=>hz vs (List.mem_of_mem_drop (List.mem_of_mem_take hvs)),λi vs hi k u hk=>?_⟩⟩
 rw [List.getElem?_take] at hi
 split at hi
 · rw [List.getElem?_drop] at hi
   have hf:=aFi (λvs hv=>(hz vs hv).1) hi hk
   rw [<- ht,List.getElem?_take] at hf
   rw [aD3,show off*sz+(i*sz+k)=(off+i)*sz+k by rw [Nat.add_mul];omega,cell_of_row w _ _ cur e (0,0) hh]
   split at hf
   · simpa using hf
   · cases hf
 · cases hi
theorem bN0 {S':Nat->Prop}(hok:HeapOK S B H w) (x:AV){v:Value}(hl:bGr S H S' (bAb x)) (h:aAi S H w x v):aAi S' H0 w (aGp (aAd H.h) x) v:=by
 cases x with
 |own p off len=>
  simp only [aGp]
  split
  · rename_i fz e sz es ho
    exact aW4 hok hl ho h
  · simp [aAi]
 |ro sz es=>exact aAi.later hl.later0 (.ro sz es) v (by simpa [aAi] using h)
 |rp cs=>exact aAi.later hl.later0 (.rp cs) v (by simpa [aAi] using h)
 |j=>simp [aGp,aAi]
 |u=>simpa [aGp,aAi] using h
 |int k n=>simpa [aGp,aAi] using h
 |bool k=>simpa [aGp,aAi] using h
 |str k=>simpa [aGp,aAi] using h
 |nils=>simpa [aGp,aAi] using h
 |nili=>simpa [aGp,aAi] using h
 |fr e sz es=>simp [aAi] at h
 |fn f cs=>
  cases cs with
  |nil=>simpa [aGp,aAi,aAt] using h
  |cons _ _=>simp [aGp,aAi]
 |_=>simp [aGp,aAi]
theorem aKf {S':Nat->Prop}(hok:HeapOK S B H w):∀(xs:List AV){vs:List Value},bGr S H S' (aG1 xs)->aAt S H w xs vs->aAt S' H0 w (xs.map (aGp (aAd H.h))) vs
 |[],vs,_,h=>by simpa [aAt] using h
 |x::xs,vs,hl,h=>by
  simp only [aAt,List.map_cons] at h ⊢
  obtain ⟨v,r,e,hx,hr⟩:=h
  exact ⟨v,r,e,bN0 hok x (hl.mono (λq hq=>by simp [aG1,hq])) hx,aKf hok xs (hl.mono (λq hq=>by simp [aG1,hq])) hr⟩
theorem aRr {S':Nat->Prop}(hok:HeapOK S B H w) (n:Nat) (x:AV){v:Value}(hl:aUv S H S' (aRl (aAd H.h) x)) (h:aAi S H w x v):aAi S' H0 w (aDv (aAd H.h) n x) v:=by
 cases x with
 |own p off len=>
  simp only [aDv]
  split
  · rename_i fz e sz es ho
    exact aW4 hok hl.1 ho h
  · simp [aAi]
 |bptr p c=>
  simp only [aDv]
  split
  · rename_i t cs ho
    have hat:=aIn ho
    simp only [aRl,ho] at hl
    simp only [aAi] at h
    have hv:=h.2.2 _ hat
    obtain ⟨vs,h1,h2,h3,h4⟩:=hok.box p t cs ho
    simp only [aAi]
    refine ⟨_,hv,hl.2 p (by simp) _ _ ho,aCc hok hat,vs.drop c,?_,λu hu=>h2 u (List.mem_of_mem_drop hu),λk u hk=>?_⟩
    · rw [List.map_drop]
      exact aAt.drop c (aKf hok cs (hl.1.mono (λq hq=>by simp [hq])) h3)
    · rw [aD3,cell_of_row w _ _ _ t (0,0) h1]
      rw [List.getElem?_drop] at hk
      simpa using hk
  · simp [aAi]
 |nils=>simp only [aAi] at h;subst h;simp only [aDv,aAi];exact ⟨none,0,rfl,by simp,by simp [maxLen],by simp⟩
 |ro sz es=>exact aAi.later hl.1.later0 (.ro sz es) v (by simpa [aAi] using h)
 |rp cs=>exact aAi.later hl.1.later0 (.rp cs) v (by simpa [aAi] using h)
 |j=>simp [aDv,aAi]
 |u=>simpa [aDv,aAi] using h
 |int k n=>simpa [aDv,aAi] using h
 |bool k=>simpa [aDv,aAi] using h
 |str k=>simpa [aDv,aAi] using h
 |nili=>simpa [aDv,aAi] using h
 |fr e sz es=>simp [aAi] at h
 |_=>simp [aDv,aAi]
theorem aJf {S':Nat->Prop}(hok:HeapOK S B H w):∀(ns:List Nat) (xs:List AV){vs:List Value},aUv S H S' (aFc (aAd H.h) xs)->aAt S H w xs vs->aAt S' H0 w (aMc (aAd H.h) ns xs) vs
 |_,[],vs,_,h=>by simpa [aAt,aMc] using h
 |[],x::xs,vs,hl,h=>by
  simp only [aAt,aMc] at h ⊢
  obtain ⟨v,r,e,hx,hr⟩:=h
  exact ⟨v,r,e,aRr hok 0 x (hl.mono (λq hq=>by simp [aFc,hq])) hx,aJf hok [] xs (hl.mono (λq hq=>by simp [aFc,hq])) hr⟩
 |n::ns,x::xs,vs,hl,h=>by
  simp only [aAt,aMc] at h ⊢
  obtain ⟨v,r,e,hx,hr⟩:=h
  exact ⟨v,r,e,aRr hok n x (hl.mono (λq hq=>by simp [aFc,hq])) hx,aJf hok ns xs (hl.mono (λq hq=>by simp [aFc,hq])) hr⟩
theorem bFz {S':Nat->Prop}(hok:HeapOK S B H w) (ti:TI) (x:AV){v:Value}(hl:aUv S H S' (bW8 (aAd H.h) x)) (h:aAi S H w x v):aAi S' H0 w (bPb (aAd H.h) ti x) v:=by
 cases x with
 |agg cs=>
  simp only [aAi,bPb,bW8] at h hl ⊢
  obtain ⟨vs,e,h1,h2⟩:=h
  exact ⟨vs,e,h1,aJf hok _ cs hl h2⟩
 |fn f cs=>
  simp only [aAi,bPb,bW8] at h hl ⊢
  obtain ⟨vs,e,h2⟩:=h
  exact ⟨vs,e,aJf hok _ cs hl h2⟩
 |tup cs=>simp [bPb,aAi]
 |_=>exact aRr hok (ti.csz.headD 0) _ hl h
end Go.V
namespace Go.V
open Go.RowKit
variable {P:Program}{gl:Gl}{T:Tab}{B:Base}{S:Nat->Prop}{H:Hp}{a:Act}{w:World}{E:Operand->AV}{n:Nat}{K:AV->List (Nat×Ob)->Prop}{dr:Bool}
theorem aJg {o:Oper}{x:AV}{d:List (Nat×Ob)}{u:Value}{S':Nat->Prop}{H':Hp}{w':World}(h:(execOp a.eval o).run P w= .ok (.value u) w') (hk:K x d)
 (he:Eff gl B S H w S' H' w' d) (hx:aAi S' H' w' x u):Ok1 P gl B S H a w o K:=
 λnext Q hn=>bUh h (hn x d u S' H' w' hk he hx)
theorem bD5 {o:Oper}{d:List (Nat×Ob)}{S':Nat->Prop}{H':Hp}{w':World}(h:(execOp a.eval o).run P w= .ok .skip w') (hk:K .u d)
 (he:Eff gl B S H w S' H' w' d):Ok1 P gl B S H a w o K:=
 λnext Q hn=>bTj h (hn .u d undef S' H' w' hk he cA0)
def bEm (n:Nat) (H:Hp) (K:AV->List (Nat×Ob)->Prop):Prop:=∀x d,K x d->∀q ob,(q,ob)∈d->n<=q->aAd H.h q= .dead
theorem aHx (w:World) (o:Obj):(newObj o).run P w= .ok w.heap.size (w.alloc o):=rfl
theorem bXu (hT:TOK P T) (t:TypeId) (hk:(T.ti t).k≠ .bad) (w:World):(zeroValue t).run P w= .ok (T.ti t).zv w:=by
 have f:=(hT.get hk).info
 cases hi:P.info? t with
 |none=>rw [hi] at f;cases f
 |some i=>
  rw [hi] at f
  simp only [Option.map_some,Option.some.injEq,Prod.mk.injEq] at f
  simp [zeroValue,typeInfo,hi,f.1]
theorem aB7 {H:Hp}{n:Nat}{ob:Ob}{b cap:Nat}:(H.put n ob b cap).at n=ob.sz/\(H.put n ob b cap).β n=b/\(H.put n ob b cap).κ n=cap:=by
 simp [Hp.at,Hp.put,aBx]
theorem bSp (hT:TOK P T) (hr:Opn gl B S H w E a){o:Oper}{t:TypeId}(ho:o.op= .alloc t) (hf:bEm n H K) (h:vop P gl T dr o.op E (aAd H.h) n K):Ok1 P gl B S H a w o K:=by
 rw [ho] at h
 simp only [vop] at h
 split at h
 · exact h.elim
 · rename_i hk
   have hk:(T.ti t).k≠ .bad:=λe=>hk e
   obtain ⟨hz,hz1,hzs,hzl⟩:=aO3 hT hk S H w
   have E1:=aF8 hr.wd (n:=n) (ob:=.box t (T.ti t).zero) (cap:=0) (hf _ _ h n _ (List.mem_singleton.2 rfl) (Nat.le_refl _)) (.cells (T.ti t).zv.cells t) ⟨(T.ti t).zv.cells.toList,by simp,hz1,hz⟩
   refine aJg (u:=.pointer (some ⟨w.heap.size,0,none⟩)) ?_ h E1 ?_
   · simp [execOp,ho,Instr.alloc,bXu hT t hk w,newVar,newRow,aHx]
   · simp only [aAi]
     refine ⟨rfl,by rw [aB7.1];simp [Ob.sz],λ_ _=>by rw [aB7.2.1]⟩
theorem cAp (hr:Opn gl B S H w E a){o:Oper}{t:TypeId}{x:Operand}(ho:o.op= .box t x) (hf:bEm n H K) (h:vop P gl T dr o.op E (aAd H.h) n K):Ok1 P gl B S H a w o K:=by
 rw [ho] at h
 simp only [vop,aBy] at h
 obtain ⟨hsz,h⟩:=h
 obtain ⟨vs,hv,hvn,hv1,hvl,_⟩:=aI3 hsz (hr.ev x)
 have E1:=aF8 hr.wd (n:=n) (ob:=.box t (cells (E x))) (cap:=0) (hf _ _ h n _ (List.mem_singleton.2 rfl) (Nat.le_refl _)) (.cells (a.eval x).cells t) ⟨vs,by rw [hv],hv1,hvl⟩
 refine aJg (u:=.pointer (some ⟨w.heap.size,0,none⟩)) ?_ h E1 ?_
 · simp [execOp,ho,Instr.box,newVar,newRow,aHx]
 · simp only [aAi]
   refine ⟨rfl,by rw [aB7.1];simp [Ob.sz],λ_ _=>by rw [aB7.2.1]⟩
theorem bIw (hr:Opn gl B S H w E a){o:Oper}{t:TypeId}(ho:o.op= .makeMap t none) (hf:bEm n H K) (h:vop P gl T dr o.op E (aAd H.h) n K):Ok1 P gl B S H a w o K:=by
 rw [ho] at h
 simp only [vop] at h
 have E1:=aF8 hr.wd (n:=n) (ob:=.kv []) (cap:=0) (hf _ _ h n _ (List.mem_singleton.2 rfl) (Nat.le_refl _)) (.map #[] 0) ⟨#[],0,rfl,by simp [aC6]⟩
 refine aJg (u:=.map (some w.heap.size)) ?_ h E1 ?_
 · simp [execOp,ho,Instr.makeMap,aHx]
 · simp only [aAi]
   refine ⟨rfl,by rw [aB7.1];simp [Ob.sz],λ_ _=>by rw [aB7.2.1]⟩
theorem bOw (z:Array Value) (c l:Nat) (hz:0<z.size) (hl:l<=c):(madeCells z (c*z.size)).toList.take (l*z.size)=(List.replicate l z.toList).flatten:=by
 have hget:∀l k,k<l*z.size->(List.replicate l z.toList).flatten[k]? =z[k % z.size]? :=by
  intro l
  induction l with
  |zero=>intro k hk;simp at hk
  |succ l ih=>
   intro k hk
   rw [List.replicate_succ,List.flatten_cons]
   by_cases hlt:k<z.size
   · rw [List.getElem?_append_left (by simpa using hlt),Nat.mod_eq_of_lt hlt];simp
   · rw [List.getElem?_append_right (by simp;omega)]
     have:=ih (k - z.size) (by rw [Nat.succ_mul] at hk;omega)
     simp only [Array.length_toList]
     rw [this,Nat.mod_eq_sub_mod (Nat.le_of_not_lt hlt)]
 apply List.ext_getElem?
 intro k
 rw [List.getElem?_take]
 by_cases hk:k<l*z.size
 · rw [if_pos hk,hget l k hk]
   have:k<c*z.size:=Nat.lt_of_lt_of_le hk (Nat.mul_le_mul_right _ hl)
   have hm:k % z.size<z.size:=Nat.mod_lt _ hz
   simp [madeCells,this,hm]
 · rw [if_neg hk,List.getElem?_eq_none]
   simp
   omega
theorem aJm {S w} {xs:List AV}{vs:List Value}(h:aAt S H0 w xs vs):∀n,aAr S w (List.replicate n xs) (List.replicate n vs)
 |0=>by simp [aAr]
 |n+1=>by simp only [List.replicate_succ,aAr];exact ⟨vs,_,rfl,h,aJm h n⟩
theorem bAi (hT:TOK P T) (hr:Opn gl B S H w E a){o:Oper}{t:TypeId}{x y:Operand}(ho:o.op= .makeSlice t x y) (hf:bEm n H K) (h:vop P gl T dr o.op E (aAd H.h) n K):Ok1 P gl B S H a w o K:=by
 rw [ho] at h
 simp only [vop] at h
 have hx:=hr.ev x
 have hy:=hr.ev y
 split at h
 · rename_i l c e1 e2
   rw [e1] at hx;rw [e2] at hy;simp only [aAi] at hx hy
   obtain ⟨e,hu,hke,h⟩:=bI6 hT h
   simp only [aBy] at h
   obtain ⟨hsz,h0,hlc,hc,hb,m,rfl,hK⟩:=h
   have hsz:0<(T.ti e).size:=by simpa using hsz
   obtain ⟨hz,hz1,hzs,hzl⟩:=aO3 hT hke S H0 w
   have hinfo:=(hT.get hke).info
   cases hi:P.info? e with
   |none=>rw [hi] at hinfo;cases hinfo
   |some i=>
    rw [hi] at hinfo
    simp only [Option.map_some,Option.some.injEq,Prod.mk.injEq] at hinfo
    obtain ⟨i1,i2,i3⟩:=hinfo
    have hrun:=run_make (P:=P) w t e i (T.ti e).zv hu hi i1 .i64 .i64 (m:Int) c h0 hlc (by rw [i3,Int.mul_comm];omega) (by omega)
    rw [i2,<-hzs] at hrun
    have hc':c.toNat<=maxLen:=by simp only [maxLen];omega
    have E1:=aF8 hr.wd (n:=n) (ob:=.row false e (T.ti e).size (List.replicate m (T.ti e).zero)) (cap:=c.toNat) (hf _ _ hK n _ (List.mem_singleton.2 rfl) (Nat.le_refl _)) (.cells (madeCells (T.ti e).zv.cells (c.toNat*(T.ti e).zv.cells.size)) e)
     ⟨rfl,_,List.replicate m (T.ti e).zv.cells.toList,rfl,by rw [size_madeCells,hzs],hsz,by simp;omega,hc',aJm hz m,by
       intro vs hvs
       have:=(List.mem_replicate.1 hvs).2
       subst this
       exact ⟨by simpa using hzs,hz1⟩,by
       rw [List.length_replicate,<-hzs]
       exact bOw _ _ _ (by rw [hzs];exact hsz) (by omega)⟩
    refine aJg (u:=.slice (some ⟨w.heap.size,0,none⟩) m c.toNat) ?_ hK E1 ?_
    · simp [execOp,ho,hx,hy,hrun]
    · simp only [aAi]
      refine ⟨rfl,by rw [aB7.1];simp [Ob.sz],λs hs=>?_⟩
      rw [aB7.1] at hs
      simp only [Ob.sz,Option.some.injEq] at hs
      subst hs
      rw [aB7.2.1,aB7.2.2]
      simp
 · exact h.elim
end Go.V
namespace Go.V
open Go.RowKit
variable {P:Program}{gl:Gl}{T:Tab}{B:Base}{S:Nat->Prop}{H:Hp}{a:Act}{w:World}{E:Operand->AV}{n:Nat}{K:AV->List (Nat×Ob)->Prop}{dr:Bool}
theorem aLe (w:World) (g:Nat) (cs:Array Value):(w.setRow g cs).heap.size=w.heap.size:=by simp [World.setRow]
theorem aIq (w:World) (b o:Nat) (t:TypeId){vs:List Value}(v:Value) (hv:v.cells=vs.toArray) (hsz:∀w,(sizeOf t).run P w= .ok vs.length w) (h1:One vs)
 (cur:Array Value) (ty:TypeId) (hg:w.heap[b]? =some (.cells cur ty (0,0))) (hfit:o+vs.length<=cur.size):
 (storeVar t ⟨b,o,none⟩ v).run P w= .ok () (w.setRow b (aDc cur.toList o vs).toArray):=by
 have hst:=run_storeCells_at P b o ty vs 0 cur w hg (by simpa using hfit) h1
 have e:=aG5 cur.toList o vs (by simpa using hfit)
 simp only [Nat.add_zero] at hst
 rw [e]
 simp [storeVar,hsz,hv,hst]
theorem aNz:∀(x y:List Value) (n:Nat) (us:List Value),n+us.length<=x.length->aDc (x++y) n us=aDc x n us++y:=by
 intro x y n us h
 rw [aG5 _ _ _ (by simp;omega),aG5 _ _ _ h,List.take_append_of_le_length (by omega),List.drop_append_of_le_length h]
 simp
theorem aRv:∀(x y:List Value) (n:Nat) (us:List Value),aDc (x++y) (x.length+n) us=x++aDc y n us
 |[],y,n,us=>by simp
 |v::x,y,n,us=>by
  simp only [List.cons_append,List.length_cons]
  rw [show x.length+1+n=(x.length+n)+1 by omega]
  show v::aDc (x++y) (x.length+n) us=_
  rw [aRv x y n us]
theorem aMg {sz:Nat}:∀(vss:List (List Value)) (i c:Nat) (us xs:List Value),(∀ vs∈vss,vs.length=sz)->vss[i]? =some xs->c+us.length<=sz->
 aDc vss.flatten (i*sz+c) us=(vss.set i (aDc xs c us)).flatten
 |[],i,c,us,xs,_,h,_=>by simp at h
 |x::vss,0,c,us,xs,hz,h,hc=>by
  simp at h;subst h
  simp only [Nat.zero_mul,Nat.zero_add,List.flatten_cons,List.set_cons_zero]
  exact aNz _ _ _ _ (by rw [hz x (by simp)];exact hc)
 |x::vss,i+1,c,us,xs,hz,h,hc=>by
  simp only [List.flatten_cons,List.set_cons_succ]
  rw [show (i+1)*sz+c=x.length+(i*sz+c) by rw [hz x (by simp),Nat.succ_mul];omega,aRv,aMg vss i c us xs (λvs hv=>hz vs (List.mem_cons_of_mem _ hv)) (by simpa using h) hc]
theorem aTy (S:Nat->Prop){S':Nat->Prop}{H':Hp}{ps:List Nat}{d} (hok:HeapOK S B H w) (he:Eff gl B S H w S' H' w d) (hb:H'.β=H.β) (h1:∀p∈ps,∀fz e sz es,aAd H.h p= .row fz e sz es->S' (H'.β p)):bGr S H S' ps:=
 ⟨λb hb=>(he.later.blk b hb (hok.sb b hb)).1,λp hp fz e sz es ho=>by rw [<- hb];exact h1 p hp fz e sz es ho⟩
theorem TOK.get2 {P:Program}{T:Tab}(h:TOK P T){t:Nat}(hk:(T.ti t).size≠0):TFact P t (T.ti t):=by
 induction T with
 |nil=>exact absurd rfl hk
 |cons x r ih=>
  obtain ⟨k,ti⟩:=x
  unfold Tab.ti lk at hk ⊢
  cases hb:Nat.beq k t with
  |true=>
   simp only [hb] at hk ⊢
   rw [<- Nat.eq_of_beq_eq_true hb];exact h.1
  |false=>
   simp only [hb] at hk ⊢
   exact ih h.2 hk
theorem bTb (hT:TOK P T) (t:TypeId) (hk:(T.ti t).size≠0) (w:World):(sizeOf t).run P w= .ok (T.ti t).size w:=by
 have f:=(hT.get2 hk).info
 cases hi:P.info? t with
 |none=>rw [hi] at f;cases f
 |some i=>
  rw [hi] at f
  simp only [Option.map_some,Option.some.injEq,Prod.mk.injEq] at f
  simp [sizeOf,typeInfo,hi,f.2.1]
theorem bSx (hT:TOK P T) (hr:Opn gl B S H w E a){o:Oper}{t:TypeId}{x y:Operand}(ho:o.op= .store t x y) (h:vop P gl T dr o.op E (aAd H.h) n K):Ok1 P gl B S H a w o K:=by
 rw [ho] at h
 simp only [vop] at h
 have hx:=hr.ev x
 have hy:=hr.ev y
 unfold aSe at h
 have tsz:bTa (T.ti t).size (E y)=true->∀w:World,(sizeOf t).run P w= .ok (T.ti t).size w:=λhs=>bTb hT t (λe=>by rw [e] at hs;simp [bTa] at hs)
 split at h
 · rename_i p c e1
   split at h
   · rename_i ty cs hg
     simp only [aBy,Bool.and_eq_true] at h
     obtain ⟨⟨hsz,hle⟩,h⟩:=h
     have hle:=Nat.le_of_ble_eq_true hle
     obtain ⟨vs,hv,hvn,hv1,hvl,hn0⟩:=aI3 hsz hy
     have hat:=aIn hg
     rw [e1] at hx;simp only [aAi] at hx
     have hxv:=hx.2.2 _ hat
     obtain ⟨us,k1,k2,k3,k4⟩:=hr.wd.ok.box p ty cs hg
     have hlen:=aAt.length k3
     have hrun:=aIq (P:=P) w (H.β p) c t (a.eval y) hv (λw=>by rw [hvn];exact tsz hsz w) hv1 _ ty k1 (by simp;omega)
     refine bD5 (w':=w.setRow (H.β p) (aDc us c vs).toArray) ?_ h (aQe hr.wd hat (s:=(0,0)) rfl rfl rfl rfl (aLe _ _ _) (λk hk=>setRow_other _ _ _ _ hk) k4 ?_)
     · simp only [List.toList_toArray] at hrun
       simp [execOp,ho,hxv,Instr.storeAt,Instr.sureAddr,hrun]
     · refine ⟨aDc us c vs,setRow_heap _ _ _ _ _ _ k1,λu hu=>?_,aMh c k3 hvl⟩
       rcases aJh _ _ _ u hu with hu|hu
       · exact k2 u hu
       · exact hv1 u hu
   · exact h.elim
 · rename_i p i c e1
   split at h
   · rename_i e sz es hg
     simp only [aBy,Bool.and_eq_true,Bool.not_eq_true'] at h
     obtain ⟨⟨hsz,hno⟩,hle,cs,hi,h⟩:=h
     have hle:=Nat.le_of_ble_eq_true hle
     have hno:p ∉ aG1 (cells (E y)):=λhm=>by
      rw [List.any_eq_false] at hno
      exact hno p hm (by simp)
     obtain ⟨vs,hv,hvn,hv1,hvl,hn0⟩:=aI3 hsz hy
     have hat:=aCk hg
     rw [e1] at hx;simp only [aAi] at hx
     have hxv:=hx.2.2 _ hat
     obtain ⟨S',H',E1,f1,f2,f3,f4,f5,f6,f7⟩:=aLy (aAd H.h) (aG1 (cells (E y))) hr.wd (aGs.refl _)
     have hg':aAd H'.h p= .row false e sz es:=by rw [f5 p hno];exact hg
     have hl:=aTy S hr.wd.ok E1 f2 f1
     have hvl':=aKf hr.wd.ok _ hl hvl
     obtain ⟨⟨cur,vss,k1,k2,k3,k4,k5,k6,k7,k8⟩,k9⟩:=E1.wd.ok.row p _ _ _ _ hg'
     have hilt:i<es.length:=(List.getElem?_eq_some_iff.1 hi).1
     obtain ⟨xs,hxi,hxs⟩:=aAr.get k6 hi
     have hxl:=(k7 xs (List.mem_of_getElem? hxi)).1
     have hcur:es.length*sz<=cur.size:=by rw [k2];exact Nat.mul_le_mul_right _ k4
     have hfit1:i*sz+c+vs.length<=es.length*sz:=by
      have:(i+1)*sz<=es.length*sz:=Nat.mul_le_mul_right _ hilt
      rw [Nat.succ_mul] at this
      omega
     have hrun:=aIq (P:=P) w (H'.β p) (i*sz+c) t (a.eval y) hv (λw=>by rw [hvn];exact tsz hsz w) hv1 _ e k1 (by omega)
     have hflat:vss.flatten.length=es.length*sz:=by rw [<- k8];simp;omega
     have E2:=aQe E1.wd (p:=p) (ob:=.row false e sz (es.set i (aSi cs c ((cells (E y)).map (aGp (aAd H.h)))))) (w':=w.setRow (H'.β p) (aDc cur.toList (i*sz+c) vs).toArray) (aCk hg') (by simp [Ob.sz]) rfl rfl rfl (aLe _ _ _) (λk hk=>setRow_other _ _ _ _ hk)
      (by intro hs;exact absurd (k9.1 hs) (by simp))
      ⟨rfl,_,vss.set i (aDc xs c vs),setRow_heap _ _ _ _ _ _ k1,by simp [aDp,k2],k3,by simpa using k4,k5,aAr.set k6 i (aMh c hxs hvl'),by
        intro ws hws
        rcases List.mem_or_eq_of_mem_set hws with hws|rfl
        · exact k7 ws hws
        · refine ⟨by rw [aDp];exact hxl,λu hu=>?_⟩
          rcases aJh _ _ _ u hu with hu|hu
          · exact (k7 xs (List.mem_of_getElem? hxi)).2 u hu
          · exact hv1 u hu,by
        simp only [List.length_set]
        rw [<- aMg vss i c vs xs (λvs hv=>(k7 vs hv).1) hxi (by omega),<-k8]
        conv=>lhs;rw [<- List.take_append_drop (es.length*sz) cur.toList]
        rw [aNz _ _ _ _ (by simp;omega),List.take_append_of_le_length (by rw [aDp];simp;omega),List.take_of_length_le (by rw [aDp];simp;omega)]⟩
     refine bD5 ?_ h (E1.trans E2)
     rw [f2] at hrun ⊢
     simp [execOp,ho,hxv,Instr.storeAt,Instr.sureAddr,hrun]
   · exact h.elim
 · exact h.elim
end Go.V
namespace Go.V
open Go.RowKit
variable {P:Program}{gl:Gl}{T:Tab}{B:Base}{S:Nat->Prop}{H:Hp}{a:Act}{w:World}{E:Operand->AV}{n:Nat}{K:AV->List (Nat×Ob)->Prop}{dr:Bool}
theorem bT7 (hr:Opn gl B S H w E a){S':Nat->Prop}(ti:TI):∀(ps:List (Nat×Operand)) (i:Nat) (es:List (List AV)),aD4 (aAd H.h) ti i (ps.map λp=>(p.1,E p.2))=some es->
 bGr S H S' (aKt (ps.map λp=>(p.1,E p.2)))->
 ∃vss:List (List Value),aAr S' w es vss/\(∀ vs∈vss,vs.length=ti.size/\One vs)/\es.length=ps.length/\
  (ps.map λp=>(p.1,a.eval p.2))=((ps.map λp=>a.eval p.2).zipIdx i).map (λx=>(x.2,x.1))/\(∀ v∈ps.map (λp=>a.eval p.2),v.cells.size=ti.size)/\
  (ps.map λp=>a.eval p.2).flatMap (λv=>v.cells.toList)=vss.flatten
 |[],i,es,h,_=>by
  simp only [List.map_nil,aD4,Option.some.injEq] at h
  subst h
  exact ⟨[],by simp [aAr],by simp,rfl,rfl,by simp,rfl⟩
 |(k,x)::ps,i,es,h,hl=>by
  simp only [List.map_cons,aD4] at h
  split at h
  · rename_i hb
    simp only [Bool.and_eq_true] at hb
    obtain ⟨hk,hsz⟩:=hb
    have hk:=Nat.eq_of_beq_eq_true hk
    subst hk
    cases hr':aD4 (aAd H.h) ti (k+1) (ps.map λp=>(p.1,E p.2)) with
    |none=>rw [hr'] at h;cases h
    |some es'=>
     rw [hr'] at h
     simp only [Option.map_some,Option.some.injEq] at h
     subst h
     obtain ⟨vss,k1,k2,k3,k4,k5,k6⟩:=bT7 hr ti ps (k+1) es' hr' (hl.mono λq hq=>by simp [aKt,hq])
     obtain ⟨vs,hv,hvn,hv1,hvl,hn0⟩:=aI3 hsz (hr.ev x)
     have hvl':=aKf hr.wd.ok _ (hl.mono λq hq=>by simp [aKt,hq]) hvl
     refine ⟨vs::vss,by simp only [aAr];exact ⟨vs,vss,rfl,hvl',k1⟩,?_,by simp [k3],?_,?_,?_⟩
     · intro us hus
       simp only [List.mem_cons] at hus
       rcases hus with rfl|hus
       · exact ⟨hvn,hv1⟩
       · exact k2 us hus
     · simp only [List.map_cons,List.zipIdx_cons,k4]
     · intro v hm
       simp only [List.map_cons,List.mem_cons] at hm
       rcases hm with rfl|hm
       · rw [hv];simpa using hvn
       · exact k5 v hm
     · simp [hv,k6]
  · cases h
theorem aB0 {sz:Nat}:∀{vss:List (List Value)},(∀ vs∈vss,vs.length=sz)->vss.flatten.length=vss.length*sz
 |[],_=>by simp
 |x::vss,h=>by
  rw [List.flatten_cons,List.length_append,h x (by simp),aB0 λvs hv=>h vs (List.mem_cons_of_mem _ hv),List.length_cons,Nat.succ_mul];omega
theorem aW0 (hT:TOK P T) (hr:Opn gl B S H w E a){o:Oper}{t:TypeId}{len:Nat}{ps:Array (Nat×Operand)}(ho:o.op= .buildSlice t len ps) (hf:bEm n H K) (h:vop P gl T dr o.op E (aAd H.h) n K):Ok1 P gl B S H a w o K:=by
 rw [ho] at h
 simp only [vop] at h
 obtain ⟨e,hu,hke,h⟩:=bI6 hT h
 split at h
 · rename_i es hes
   simp only [aBy,Bool.and_eq_true] at h
   obtain ⟨⟨⟨hlen,hle⟩,hpos⟩,h⟩:=h
   have hlen:=Nat.eq_of_beq_eq_true hlen
   have hle:=Nat.le_of_ble_eq_true hle
   have hpos:0<(T.ti e).size:=by simpa using hpos
   obtain ⟨S',H',E1,f1,f2,f3,f4,f5,f6,f7⟩:=aLy (aAd H.h) (aKt (ps.toList.map λp=>(p.1,E p.2))) hr.wd (aGs.refl _)
   have hl:=aTy S hr.wd.ok E1 f2 f1
   obtain ⟨vss,k1,k2,k3,k4,k5,k6⟩:=bT7 hr (T.ti e) ps.toList 0 es hes hl
   have hd:aAd H.h n= .dead:=hf _ _ h n _ (List.mem_append.2 (.inr (List.mem_singleton.2 rfl))) (Nat.le_refl _)
   have hd':aAd H'.h n= .dead:=by rw [f6 n (by rw [hd];simp)];exact hd
   have hinfo:=(hT.get hke).info
   cases hi:P.info? e with
   |none=>rw [hi] at hinfo;cases hinfo
   |some i=>
    rw [hi] at hinfo
    simp only [Option.map_some,Option.some.injEq,Prod.mk.injEq] at hinfo
    obtain ⟨i1,i2,i3⟩:=hinfo
    have hvl:vss.length=len:=by rw [aAr.length k1];exact hlen
    by_cases hl0:len=0
    · subst hl0
      have hps:ps= #[]:=by
       have:ps.toList=[]:=List.eq_nil_of_length_eq_zero (by omega)
       rw [<- Array.toArray_toList (xs:=ps),this]
      have hes0:es=[]:=List.eq_nil_of_length_eq_zero hlen
      subst hps hes0
      have E2:=aF8 E1.wd (n:=n) (ob:=.row false e (T.ti e).size []) (cap:=0) hd' (.cells #[] e)
       ⟨rfl,_,[],rfl,by simp,hpos,by simp,by simp,by simp [aAr],by simp,by simp⟩
      refine aJg (u:=.slice (some ⟨w.heap.size,0,none⟩) 0 0) ?_ h (E1.trans E2) ?_
      · simp [execOp,ho,Instr.buildSlice,run_underlying hu,aR7 hT e hke w,Instr.fill,newRow,aHx,Array.range_zero']
      · simp only [aAi]
        refine ⟨rfl,by rw [aB7.1];simp [Ob.sz],λs hs=>?_⟩
        rw [aB7.1] at hs
        simp only [Ob.sz,Option.some.injEq] at hs
        subst hs
        rw [aB7.2.1,aB7.2.2]
        simp
    · have hfl:=aB0 (sz:=(T.ti e).size) λvs hv=>(k2 vs hv).1
      have hfill:Instr.fill (λi'=>some (i'*i.size,i.size)) ((Array.range (len*i.size)).map ((T.ti e).zv.cells[· % (T.ti e).zv.cells.size]!)) (ps.map λ(i,x)=>(i,a.eval x)).toList=some vss.flatten.toArray:=by
       rw [Array.toList_map,i2]
       have:=Go.Great.fill_whole hpos (ps.toList.map λp=>a.eval p.2) ((Array.range (len*(T.ti e).size)).map ((T.ti e).zv.cells[· % (T.ti e).zv.cells.size]!)) k5 (by simp [<- hlen,k3])
       rw [k6,<-k4] at this
       exact this
      have hrun:=run_buildSlice (P:=P) w t e len (ps.map λ(i,x)=>(i,a.eval x)) vss.flatten.toArray i (T.ti e).zv hu hi i1 (by rw [i2];omega) (by rw [i2];exact Nat.mul_ne_zero hl0 (by omega)) hfill
      have E2:=aF8 E1.wd (n:=n) (ob:=.row false e (T.ti e).size es) (cap:=len) hd' (.cells vss.flatten.toArray e)
       ⟨rfl,_,vss,rfl,by simpa [hvl] using hfl,hpos,by omega,by simp only [maxLen];have:len<=len*(T.ti e).size:=Nat.le_mul_of_pos_right _ hpos;omega,k1,k2,by rw [List.take_of_length_le (by simp only [List.toList_toArray];rw [hfl,hvl,hlen];exact Nat.le_refl _)]⟩
      refine aJg (u:=.slice (some ⟨w.heap.size,0,none⟩) len len) ?_ h (E1.trans E2) ?_
      · simp only [execOp,ho,Sem.run_bind,hrun,Result.andThen_ok];rfl
      · simp only [aAi]
        refine ⟨rfl,by rw [aB7.1];simp [Ob.sz],λs hs=>?_⟩
        rw [aB7.1] at hs
        simp only [Ob.sz,Option.some.injEq] at hs
        subst hs
        rw [aB7.2.1,aB7.2.2]
        simp [hlen]
 · exact h.elim
end Go.V
namespace Go.V
open Go.RowKit
variable {P:Program}{gl:Gl}{T:Tab}{B:Base}{S:Nat->Prop}{H:Hp}{a:Act}{w:World}{E:Operand->AV}{n:Nat}{K:AV->List (Nat×Ob)->Prop}{dr:Bool}
theorem aNn (hok:HeapOK S B H w){y:AV}{v:Value}{m sz:Nat}{new:List (List AV)}(hy:aAi S H w y v) (h:aDv (aAd H.h) m y= .ro sz new):
 ∃A c,v= .slice A new.length c/\new.length<=maxLen/\(new=[]\/∃(ad:Addr) (vss:List (List Value)),A=some ad/\aAr S w new vss/\(∀ vs∈vss,vs.length=sz/\One vs)/\
  ∀i vs,vss[i]? =some vs->∀k u,vs[k]? =some u->w.cell? (ad.add (i*sz+k))=some u):=by
 cases y with
 |nils=>
  simp only [aDv,AV.ro.injEq] at h
  obtain ⟨rfl,rfl⟩:=h
  simp only [aAi] at hy
  exact ⟨none,0,hy,by simp,.inl rfl⟩
 |ro sz' es=>
  simp only [aDv,AV.ro.injEq] at h
  obtain ⟨rfl,rfl⟩:=h
  simp only [aAi] at hy
  obtain ⟨A,c,e,h1,h2,h3⟩:=hy
  refine ⟨A,c,e,by omega,h3.imp id ?_⟩
  rintro ⟨ad,ea,_,_,vss,k1,k2,k3⟩
  exact ⟨ad,vss,ea,k1,k2,k3⟩
 |own p off len=>
  simp only [aDv] at h
  split at h
  · rename_i fz e sz' es ho
    simp only [AV.ro.injEq] at h
    obtain ⟨rfl,rfl⟩:=h
    have hat:=aCk ho
    simp only [aAi] at hy
    obtain ⟨hv,hle⟩:=hy.2.2 _ hat
    simp only at hv hle
    obtain ⟨⟨cur,vss,hh,hcs,h0,hn,hm,hll,hz,ht⟩,_⟩:=hok.row p fz e sz' es ho
    have hlen:((es.drop off).take len).length=len:=by simp;omega
    refine ⟨_,_,by rw [hlen];exact hv,by rw [hlen];omega,.inr ⟨_,(vss.drop off).take len,rfl,aAr.take _ (aAr.drop _ hll),λvs hvs=>hz vs (List.mem_of_mem_drop (List.mem_of_mem_take hvs)),λi vs hi k u hk=>?_⟩⟩
    rw [List.getElem?_take] at hi
    split at hi
    · rw [List.getElem?_drop] at hi
      have hf:=aFi (λvs hv=>(hz vs hv).1) hi hk
      rw [<- ht,List.getElem?_take] at hf
      rw [aD3,show off*sz'+(i*sz'+k)=(off+i)*sz'+k by rw [Nat.add_mul];omega,cell_of_row w _ _ cur e (0,0) hh]
      split at hf
      · simpa using hf
      · cases hf
    · cases hi
  · cases h
 |bptr p c=>simp only [aDv] at h;split at h<;>cases h
 |_=>simp [aDv] at h
theorem aQj {sz:Nat}(h0:0<sz){vss:List (List Value)}(hz:∀vs∈vss,vs.length=sz){j:Nat}{u:Value}(h:vss.flatten[j]? =some u):∃vs,vss[j / sz]? =some vs/\vs[j % sz]? =some u:=by
 have hlt:j<vss.length*sz:=by rw [<- aB0 hz];exact (List.getElem?_eq_some_iff.1 h).1
 have hd:j / sz<vss.length:=(Nat.div_lt_iff_lt_mul h0).2 hlt
 refine ⟨vss[j / sz],List.getElem?_eq_getElem hd,?_⟩
 have hl:=hz _ (List.getElem_mem hd)
 have hm:j % sz<sz:=Nat.mod_lt _ h0
 have:=aFi hz (List.getElem?_eq_getElem hd) (List.getElem?_eq_getElem (by rw [hl];exact hm))
 rw [Nat.mul_comm,Nat.div_add_mod,h] at this
 rw [List.getElem?_eq_getElem (by rw [hl];exact hm)];exact this.symm
theorem aR2 (w:World) (t ty e:TypeId) (i:TypeInfo) (ht:P.underlying t=some (.slice e)) (hi:P.info? e=some i) (A:Option Addr) (c g n cap:Nat) (hn:n<=cap):
 (Builtin.append_ #[t,t] ty #[.slice (some ⟨g,0,none⟩) n cap,.slice A 0 c]).run P w= .ok (.slice (some ⟨g,0,none⟩) n cap) w:=by
 cases A with
 |none=>simp [Builtin.append_,run_underlying ht,sizeOf,typeInfo,hi,Builtin.lenOf,Builtin.firstCells,hn,storeCells]
 |some ad=>simp [Builtin.append_,run_underlying ht,sizeOf,typeInfo,hi,Builtin.lenOf,Builtin.firstCells,hn,storeCells,loadCells,loadCellsFrom]
theorem bNz {w':World}{e sz base:Nat}{v':Value}{es new:List (List AV)}{vss uss:List (List Value)}{m:Nat}(h0:0<sz) (hes:aAr S w es vss) (hnew:aAr S w new uss)
 (hz:∀vs∈vss,vs.length=sz/\One vs) (hz':∀vs∈uss,vs.length=sz/\One vs) (hm:m=(es++new).length) (hown:w'.ownsRow base e sz v' m (vss.flatten++uss.flatten)) (hne:v'≠ .slice none 0 0):
 ∃g cap,v'= .slice (some ⟨g,0,none⟩) m cap/\v'.ownBlock=some g/\m<=cap/\g<w'.heap.size/\aUw S H w (w'.heap[g]?) cap (.row false e sz (es++new)):=by
 subst hm
 rcases hown.2 with ⟨h,_⟩|⟨g,cap,cur,rfl,_,hg,hnc,hcm,hcs,htake⟩
 · exact absurd h hne
 · refine ⟨g,cap,rfl,rfl,hnc,(Array.getElem?_eq_some_iff.1 hg).1,rfl,cur,vss++uss,hg,hcs,h0,hnc,hcm,aAr.append hes hnew,?_,by rw [List.flatten_append];exact htake⟩
   intro vs hvs
   rcases List.mem_append.1 hvs with h|h
   · exact hz vs h
   · exact hz' vs h
theorem aO7.take {b cap e sz:Nat}{es:List (List AV)}(h:aO7 S w b cap e sz es) (n:Nat):aO7 S w b cap e sz (es.take n):=by
 obtain ⟨cur,vss,r1,r2,r3,r4,r5,r6,r7,r8⟩:=h
 refine ⟨cur,vss.take n,r1,r2,r3,by simp;omega,r5,aAr.take n r6,λvs hv=>r7 vs (List.mem_of_mem_take hv),?_⟩
 have e:(vss.take n).flatten=vss.flatten.take ((es.take n).length*sz):=by
  have hl:=aAr.length r6
  have hf:(vss.take n).flatten.length=(es.take n).length*sz:=by
   rw [aB0 (sz:=sz) λvs hv=>(r7 vs (List.mem_of_mem_take hv)).1];simp [hl]
  rw [<- hf]
  conv=>rhs;rw [<- List.take_append_drop n vss,List.flatten_append]
  simp
 rw [e,<-r8,List.take_take]
 congr 1
 exact (Nat.min_eq_left (Nat.mul_le_mul_right _ (by simp;omega))).symm
theorem bN6 (hT:TOK P T) (hr:Opn gl B S H w E a){o:Oper}{args:Array Operand}{ats:Array TypeId}(ho:o.op= .call { callee:=.builtin .append,args,argTypes:=ats}) (hf:bEm n H K)
 (h:vop P gl T dr o.op E (aAd H.h) n K):Ok1 P gl B S H a w o K:=by
 rw [ho] at h
 simp only [vop] at h
 split at h
 · rename_i x y t t' ea et
   have ea:args= #[x,y]:=by rw [<- Array.toArray_toList (xs:=args),ea]
   have et:ats= #[t,t']:=by rw [<- Array.toArray_toList (xs:=ats),et]
   subst ea et
   obtain ⟨rfl,h⟩:=h
   have hx:=hr.ev x
   have hy:=hr.ev y
   unfold aJu at h
   obtain ⟨e,hu,hke,h⟩:=bI6 hT h
   have hinfo:=(hT.get hke).info
   obtain ⟨hz0,_,hzs,_⟩:=aO3 hT hke S H w
   cases hi:P.info? e with
   |none=>rw [hi] at hinfo;cases hinfo
   |some i=>
   rw [hi] at hinfo
   simp only [Option.map_some,Option.some.injEq,Prod.mk.injEq] at hinfo
   obtain ⟨i1,i2,i3⟩:=hinfo
   split at h
   · rename_i sz new hnorm
     simp only [aBy,Bool.and_eq_true] at h
     obtain ⟨⟨⟨hsz,hpos⟩,hbp⟩,h⟩:=h
     have hsz:=Nat.eq_of_beq_eq_true hsz
     have hpos:0<(T.ti e).size:=by simpa using hpos
     subst hsz
     obtain ⟨A,c,hyv,hym,hread⟩:=aNn hr.wd.ok hy hnorm
     have exec:∀v w',(Builtin.append_ #[t,t] o.type #[a.eval x,a.eval y]).run P w= .ok v w'->(execOp a.eval o).run P w= .ok (.value v) w':=λv w' hrun=>by
      simp [execOp,ho,resolve,invoke,builtin,hrun]
     have news:∀(ad:Addr) (vss:List (List Value)),(∀ vs∈vss,vs.length=(T.ti e).size/\One vs)->(∀ i vs,vss[i]? =some vs->∀k u,vs[k]? =some u->w.cell? (ad.add (i*(T.ti e).size+k))=some u)->
      (∀ j u,vss.flatten[j]? =some u->w.cell? (ad.add j)=some u)/\∀u∈vss.flatten,u.oneCell'=true:=λad vss hz hc=>by
      refine ⟨λj u hj=>?_,λu hu=>?_⟩
      · obtain ⟨vs,h1,h2⟩:=aQj hpos (λvs hv=>(hz vs hv).1) hj
        have:=hc _ vs h1 _ u h2
        rwa [Nat.mul_comm,Nat.div_add_mod] at this
      · obtain ⟨vs,h1,h2⟩:=List.mem_flatten.1 hu
        exact (hz vs h1).2 u h2
     split at h
     · -- onto nil
       rename_i e1
       obtain ⟨hb,hne,hK⟩:=h
       rw [e1] at hx;simp only [aAi] at hx
       rcases hread with hnil|⟨ad,vss,rfl,k1,k2,k3⟩
       · exact absurd hnil hne
       have hlv:=aAr.length k1
       obtain ⟨n1,n2⟩:=news ad vss k2 k3
       obtain ⟨v',w',hrun,how,hgr,hnn,hat⟩:=run_append_own_at (P:=P) w 0 t o.type e i (T.ti e).zv (T.ti e).size (T.ti e).bytes hu hi i1 i2 i3 hzs hpos (.slice none 0 0) 0 [] (World.ownsRow_nil _ _ _ _) ad new.length c vss.flatten
        (by rw [aB0 λvs hv=>(k2 vs hv).1,hlv]) n1 n2 (by omega) (by simpa using hb) (Nat.zero_le _)
       have hv'ne:v'≠ .slice none 0 0:=λe=>by
        have:=(hnn.1 e).2
        exact hne (List.eq_nil_of_length_eq_zero this)
       obtain ⟨g,cap,rfl,hob,hncap,hglt,hNew⟩:=bNz (S:=S) (H:=H) (w:=w) (es:=[]) (vss:=[]) hpos (by simp [aAr]) k1 (by simp) k2 (by simp) how hv'ne
       have hg:g=w.heap.size:=by
        rcases hat with hat|hat
        · simp [Value.ownBlock] at hat
        · simpa [Value.ownBlock] using hat
       have E1:=aLz hr.wd (w':=w') hgr.os hgr.tape hgr.output hgr.size (λk hk=>hgr.block k hk (by simp [Value.ownBlock]))
       have E2:=aV5 E1.wd (n:=n) (b:=g) (cap:=cap) (hf _ _ hK n _ (List.mem_singleton.2 rfl) (Nat.le_refl _)) (λhs=>by have:=hr.wd.ok.sb _ hs;omega) (λq s hq e=>by have:=aCc hr.wd.ok hq;omega) (.inl (by have:=hr.wd.kept.size;omega)) (hNew.later E1.later)
       refine aJg (exec _ w' (by rw [hx,hyv];exact hrun)) hK (E1.trans E2) ?_
       simp only [aAi]
       refine ⟨rfl,by rw [aB7.1];simp [Ob.sz],λs hs=>?_⟩
       rw [aB7.1] at hs
       simp only [Ob.sz,Option.some.injEq] at hs
       subst hs
       rw [aB7.2.1,aB7.2.2]
       simp
     · -- onto a row of the call's own
       rename_i p len e1
       split at h
       · rename_i e' sz' es hg
         obtain ⟨⟨he',hs'⟩,hll,hb,r,rfl,hK⟩:=h
         have he':=Nat.eq_of_beq_eq_true he'
         have hs':=Nat.eq_of_beq_eq_true hs'
         subst he' hs'
         have hat:=aCk hg
         rw [e1] at hx;simp only [aAi] at hx
         obtain ⟨hxv,hle⟩:=hx.2.2 _ hat
         simp only [Nat.zero_mul,Nat.sub_zero] at hxv
         obtain ⟨hrw,r9⟩:=hr.wd.ok.row p _ _ _ _ hg
         have hrw:=hrw.take len
         have hl1:(es.take len).length=len:=by simp;omega
         generalize es.take len=es1 at hrw hl1 hK
         subst hl1
         obtain ⟨cur,vss,r1,r2,r3,r4,r5,r6,r7,r8⟩:=hrw
         have hown:w.ownsRow 0 e' (T.ti e').size (a.eval x) es1.length vss.flatten:=⟨by rw [aB0 λvs hv=>(r7 vs hv).1,aAr.length r6],.inr ⟨H.β p,H.κ p,cur,hxv,Nat.zero_le _,r1,r4,r5,r2,r8⟩⟩
         have hdn:aAd H.h n= .dead:=hf _ _ hK n _ (List.mem_cons_of_mem _ (List.mem_singleton.2 rfl)) (Nat.le_refl _)
         have hnp:n≠p:=λe=>by subst e;rw [hg] at hdn;cases hdn
         have hSp:¬S (H.β p):=λhs=>absurd (r9.1 hs) (by simp)
         have hMp:=hr.wd.ok.mine p _ hat hSp
         have main:∃v' w',(Builtin.append_ #[t,t] o.type #[a.eval x,a.eval y]).run P w= .ok v' w'/\w.grownBy w' (some (H.β p))/\
          ∃g cap,v'= .slice (some ⟨g,0,none⟩) (es1++new).length cap/\(g=H.β p\/g=w.heap.size)/\aUw S H w (w'.heap[g]?) cap (.row false e' (T.ti e').size (es1++new)):=by
          rcases hread with rfl|⟨ad,uss,rfl,k1,k2,k3⟩
          · refine ⟨_,w,by rw [hxv,hyv];exact aR2 w t o.type e' i hu hi A c _ _ _ r4,⟨rfl,rfl,rfl,Nat.le_refl _,λ_ _ _=>rfl⟩,H.β p,H.κ p,by simp,.inl rfl,?_⟩
            rw [List.append_nil]
            exact ⟨rfl,cur,vss,r1,r2,r3,r4,r5,r6,r7,r8⟩
          · have hlv:=aAr.length k1
            obtain ⟨n1,n2⟩:=news ad uss k2 k3
            obtain ⟨v',w',hrun,how,hgr,hnn,hat'⟩:=run_append_own_at (P:=P) w 0 t o.type e' i (T.ti e').zv (T.ti e').size (T.ti e').bytes hu hi i1 i2 i3 hzs hpos (a.eval x) es1.length vss.flatten hown ad new.length c uss.flatten
             (by rw [aB0 λvs hv=>(k2 vs hv).1,hlv]) n1 n2 (by
               have hby:(es1.length+new.length)*(T.ti e').bytes<=140737488355328:=hb
               have hbp:0<(T.ti e').bytes:=by simpa using hbp
               have:=Nat.le_mul_of_pos_right (es1.length+new.length) hbp
               simp only [maxLen];omega) hb (Nat.zero_le _)
            have hv'ne:v'≠ .slice none 0 0:=λe=>by
             have:=(hnn.1 e).1
             rw [hxv] at this;cases this
            obtain ⟨g,cap,rfl,hob,hncap,hglt,hNew⟩:=bNz (S:=S) (H:=H) (w:=w) hpos r6 k1 r7 k2 (by simp) how hv'ne
            refine ⟨_,w',by rw [hyv];exact hrun,?_,g,cap,by simp,?_,hNew⟩
            · rw [hxv] at hgr;exact hgr
            · rw [hxv] at hat'
              rcases hat' with hat'|hat'
              · exact .inl (by simpa [Value.ownBlock] using hat')
              · exact .inr (by simpa [Value.ownBlock] using hat')
         obtain ⟨v',w',hrun,hgr,g,cap,rfl,hgg,hNew⟩:=main
         have E1:=bR7 hr.wd (p:=p)
         have hat1:∀q s,(H.upd p .gone).at q=some (some s)->q≠p/\H.at q=some (some s):=λq s hq=>by
          unfold Hp.at at hq ⊢
          simp only [Hp.upd,aBx] at hq
          split at hq
          · cases hq
          · exact ⟨‹_›,hq⟩
         have E2:=aT1 E1.wd (w':=w') (λk=>k=H.β p) (λk hk=>by
          subst hk
          refine ⟨hSp,λq s hq e=>?_,hMp⟩
          obtain ⟨h1,h2⟩:=hat1 q s hq
          exact h1 (hr.wd.ok.inj q p _ _ h2 hat e (e ▸ hSp))) hgr.os hgr.tape hgr.output hgr.size (λk hk hx=>hgr.block k hk (λe=>hx (by simpa using e)))
         have hgb:∀q s,(H.upd p .gone).at q=some (some s)->H.β q≠g:=λq s hq e=>by
          obtain ⟨h1,h2⟩:=hat1 q s hq
          rcases hgg with rfl|rfl
          · exact h1 (hr.wd.ok.inj q p _ _ h2 hat e (e ▸ hSp))
          · exact Nat.lt_irrefl _ (e ▸ aCc hr.wd.ok h2)
         have E3:=aV5 E2.wd (n:=n) (b:=g) (cap:=cap) (ob:=.row false e' (T.ti e').size (es1++new)) (by simp only [Hp.upd,aBx];rw [if_neg hnp];exact hdn)
          (λhs=>by
            rcases hgg with rfl|rfl
            · exact hSp hs
            · exact Nat.lt_irrefl _ (hr.wd.ok.sb _ hs)) hgb (by
            rcases hgg with rfl|rfl
            · exact hMp
            · exact .inl hr.wd.kept.size) (hNew.later (E1.later.trans E2.later))
         refine aJg (exec _ w' hrun) hK (by have:=E1.trans (E2.trans E3);simpa using this) ?_
         simp only [aAi]
         refine ⟨rfl,by rw [aB7.1];simp [Ob.sz],λs hs=>?_⟩
         rw [aB7.1] at hs
         simp only [Ob.sz,Option.some.injEq] at hs
         subst hs
         rw [aB7.2.1,aB7.2.2]
         simp
       · exact h.elim
     · exact h.elim
   · exact h.elim
 · exact h.elim
end Go.V
namespace Go.V
open Go.RowKit
variable {P:Program}{gl:Gl}{T:Tab}{B:Base}{S:Nat->Prop}{H:Hp}{a:Act}{w:World}{E:Operand->AV}{n:Nat}{K:AV->List (Nat×Ob)->Prop}{dr:Bool}
theorem bGk {S H w} (x:ByteArray){y:AV}{u:Value}(hu:aAi S H w y u) (born:Nat):∀(l:List (ByteArray×AV)) (es:List MapEntry) (i:Nat),aC6 S H w l es->
 (Instr.findNow .string (.string x) es i=some none/\aC6 S H w (aXw l x y) (es++[⟨.string x,u,born⟩]))\/
 ∃z j ent,Instr.findNow .string (.string x) es i=some (some (i+j,z))/\es[j]? =some ent/\ent.key= .string x/\aC6 S H w (aXw l x y) (es.modify j λe=>{ e with key:=.string x,val:=u})
 |[],es,i,h=>by
  simp only [aC6] at h;subst h
  exact .inl ⟨rfl,by simp only [aXw,List.nil_append,aC6];exact ⟨u,born,[],rfl,hu,rfl⟩⟩
 |(k,v)::r,es,i,h=>by
  simp only [aC6] at h
  obtain ⟨v',b,es',rfl,hv,hr⟩:=h
  by_cases e:x=k
  · subst e
    refine .inr ⟨v',0,_,by simp [Instr.findNow,(aOx x x).1 rfl],rfl,rfl,?_⟩
    simp only [aXw,if_pos,List.modify_zero_cons,aC6]
    exact ⟨u,b,es',rfl,hu,hr⟩
  · have hs:=(aOx x k).2 e
    rcases bGk x hu born r es' (i+1) hr with ⟨h1,h2⟩|⟨z,j,ent,h1,h2,h3,h4⟩
    · refine .inl ⟨by simp [Instr.findNow,hs,h1],?_⟩
      simp only [aXw,e,if_false,List.cons_append,aC6]
      exact ⟨v',b,_,rfl,hv,h2⟩
    · refine .inr ⟨z,j+1,ent,?_,by simpa using h2,h3,?_⟩
      · simp only [Instr.findNow,hs,h1]
        rw [show i+1+j=i+(j+1) by omega]
      · simp only [aXw,e,if_false,List.modify_succ_cons,aC6]
        exact ⟨v',b,_,rfl,hv,h4⟩
theorem aNy (hT:TOK P T) (hr:Opn gl B S H w E a){o:Oper}{t:TypeId}{m k v:Operand}(ho:o.op= .mapUpdate t m k v\/o.op= .insert t m k v) (h:vop P gl T dr o.op E (aAd H.h) n K):Ok1 P gl B S H a w o K:=by
 have h:vop P gl T dr (.mapUpdate t m k v) E (aAd H.h) n K:=by rcases ho with ho|ho<;>rw [ho] at h<;>exact h
 simp only [vop] at h
 have hm:=hr.ev m
 have hk:=hr.ev k
 have hv:=hr.ev v
 split at h
 · rename_i e hkd
   obtain ⟨kt,hu,huk⟩:=bOz hT hkd
   split at h
   · rename_i p x e1 e2
     split at h
     · rename_i l hg
       obtain ⟨r,rfl,hK⟩:=h
       rw [e1] at hm;rw [e2] at hk;simp only [aAi] at hm hk
       have hmv:=hm.2.2 _ (aPo hg)
       obtain ⟨es,c,hb,hl,hs⟩:=hr.wd.ok.kv p l hg
       have hck:(Instr.checkKey false 10000 kt (.string x)).run P w= .ok () w:=MapKept.run_checkKey (k:=.string x) huk (by simp [MapKept.IsKey]) _ 9999
       have fin:∀es' c',(Instr.mapUpdate t (.map (some (H.β p))) (.string x) (a.eval v)).run P w= .ok () { w with heap:=w.heap.setIfInBounds (H.β p) (.map es' c')}->aC6 S H w (aXw l x (E v)) es'.toList->Ok1 P gl B S H a w o K:=λes' c' hrun hrep=>by
        have hset:=MapKept.heap_set (o':=.map es' c') hb
        refine bD5 ?_ hK (aQe hr.wd (w':={ w with heap:=w.heap.setIfInBounds (H.β p) (.map es' c')}) (aPo hg) rfl rfl rfl rfl (by simp) hset.2 hs ⟨es',c',hset.1,hrep⟩)
        rcases ho with ho|ho<;>simp [execOp,ho,hmv,hk,hrun]
       rcases bGk x hv c l es.toList 0 hl with ⟨h1,h2⟩|⟨z,j,ent,h1,h2,h3,h4⟩
       · refine fin (es.push ⟨.string x,a.eval v,c⟩) (c+1) ?_ (by simpa using h2)
         simp [Instr.mapUpdate,run_underlying hu,MapKept.run_getObj_map hb,hck,MapKept.run_findKey huk h1,MapKept.run_setObj_map _ hb]
       · refine fin (es.modify j λe=>{ e with key:=.string x,val:=a.eval v}) c ?_ (by simpa using h4)
         have hj:es[j]? =some ent:=by simpa using h2
         have hbe:(x == x)=true:=(MapKept.bytes_beq x x).2 rfl
         simp [Instr.mapUpdate,run_underlying hu,MapKept.run_getObj_map hb,hck,MapKept.run_findKey huk h1,MapKept.run_setObj_map _ hb,hj,h3,Instr.keyThatStays,Instr.sameBits,hbe]
     · exact h.elim
   · exact h.elim
 · exact h.elim
theorem bSv (hT:TOK P T) (hr:Opn gl B S H w E a){o:Oper}{t:TypeId}{x:Operand}(ho:o.op= .range t x) (hf:bEm n H K) (h:vop P gl T dr o.op E (aAd H.h) n K):Ok1 P gl B S H a w o K:=by
 rw [ho] at h
 simp only [vop] at h
 have hx:=hr.ev x
 split at h
 · rename_i hk
   split at h
   · rename_i s e
     rw [e] at hx;simp only [aAi] at hx
     have E1:=aF8 hr.wd (n:=n) (ob:=.iter s 0) (cap:=0) (hf _ _ h n _ (List.mem_singleton.2 rfl) (Nat.le_refl _)) (.stringIter s 0) rfl
     refine aJg (u:=.pointer (some ⟨w.heap.size,0,none⟩)) ?_ h E1 ?_
     · simp [execOp,ho,Instr.range,hx,run_underlying (aLf hT hk),aHx]
     · simp only [aAi]
       refine ⟨rfl,by rw [aB7.1];simp [Ob.sz],λ_ _=>by rw [aB7.2.1]⟩
   · exact h.elim
 · exact h.elim
theorem aMj {r:Nat}{s:ByteArray}{k:Nat}(hb:w.heap[r]? =some (.stringIter s k)):(getObj r).run P w= .ok (.stringIter s k) w:=by
 simp [getObj,Sem.run,hb]
theorem aR3 {r:Nat}{s:ByteArray}{k:Nat}(o:Obj) (hb:w.heap[r]? =some (.stringIter s k)):(setObj r o).run P w= .ok () { w with heap:=w.heap.setIfInBounds r o}:=by
 simp [setObj,Sem.run,hb]
theorem bXi (hr:Opn gl B S H w E a){o:Oper}{x:Operand}(ho:o.op= .next x true) (h:vop P gl T dr o.op E (aAd H.h) n K):Ok1 P gl B S H a w o K:=by
 rw [ho] at h
 simp only [vop] at h
 have hx:=hr.ev x
 split at h
 · rename_i p e
   split at h
   · rename_i s k hg
     obtain ⟨hb,hs⟩:=hr.wd.ok.it p s k hg
     rw [e] at hx;simp only [aAi] at hx
     have hv:=hx.2.2 _ (aHe hg)
     split at h
     · rename_i hlt
       have hlt:k<s.size:=by simpa using hlt
       obtain ⟨c,m,hd,h⟩:=h
       have hset:=MapKept.heap_set (o':=.stringIter s (k+m)) hb
       refine aJg (u:=.tuple #[.bool true,goInt k,.int .i32 c]) (w':={ w with heap:=w.heap.setIfInBounds (H.β p) (.stringIter s (k+m))}) ?_ h
        (aQe hr.wd (aHe hg) rfl rfl rfl rfl (by simp) hset.2 hs hset.1) ?_
       · simp [execOp,ho,Instr.next,hv,aMj hb,hlt,<-hd,aR3 _ hb]
       · simp only [aAi,aAt]
         exact ⟨[.bool true,goInt k,.int .i32 c],rfl,_,_,rfl,rfl,_,_,rfl,rfl,_,_,rfl,rfl,rfl⟩
     · rename_i hlt
       have hlt:¬k<s.size:=by
        intro hh
        have:Nat.blt k s.size=true:=by simpa using hh
        simp [this] at hlt
       refine aBr hr (u:=.tuple #[.bool false]) ?_ h ?_
       · simp [execOp,ho,Instr.next,hv,aMj hb,hlt]
       · simp only [aAi,aAt]
         exact ⟨[.bool false],rfl,_,_,rfl,rfl,rfl⟩
   · exact h.elim
 · exact h.elim
end Go.V
namespace Go.V
open Go.RowKit
variable {P:Program}{gl:Gl}{T:Tab}{B:Base}{S:Nat->Prop}{H:Hp}{a:Act}{w:World}{E:Operand->AV}{n:Nat}{K:AV->List (Nat×Ob)->Prop}{dr:Bool}
theorem bXe (hT:TOK P T) (hr:Opn gl B S H w E a){o:Oper}{s d:TypeId}{x:Operand}(ho:o.op= .convert s d x) (h:vop P gl T dr o.op E (aAd H.h) n K):Ok1 P gl B S H a w o K:=by
 rw [ho] at h
 simp only [vop] at h
 unfold bEg at h
 have hx:=hr.ev x
 split at h
 · rename_i k0 hs
   have us:=bEe hT hs
   split at h
   · rename_i k k' n hd e
     have ud:=bEe hT hd
     obtain ⟨r,rfl,hK⟩:=h
     rw [e] at hx;simp only [aAi] at hx
     exact aBr hr (by simp [execOp,ho,hx,convert,run_underlying us,run_underlying ud,Conv.intToInt]) hK (aE3 _ _)
   · exact h.elim
 · rename_i hs
   have us:=aLf hT hs
   split at h
   · rename_i s' hd e
     have ud:=aLf hT hd
     rw [e] at hx;simp only [aAi] at hx
     exact aBr hr (by simp [execOp,ho,hx,convert,run_underlying us,run_underlying ud]) h (aXd _)
   · exact h.elim
 · rename_i e hs
   have us:=aMo hT hs
   split at h
   · rename_i he
     have ue:=bEe hT he
     split at h
     · rename_i hd
       have ud:=aLf hT hd
       split at h
       · rename_i es hnorm
         obtain ⟨bs,rfl,hK⟩:=h
         obtain ⟨A,c,hv,_,hread⟩:=aNn hr.wd.ok hx hnorm
         refine aBr hr (u:=.string (sN bs)) ?_ hK (aXd _)
         have hrun:(convert s d (a.eval x)).run P w= .ok (.string (sN bs)) w:=by
          rw [hv,run_convert_bytes_string w s d e _ _ _ us ue ud]
          rcases hread with hnil|⟨ad,vss,rfl,k1,k2,k3⟩
          · have hb:bs=[]:=by simpa using hnil
            subst hb
            cases A with
            |none=>simp [Conv.bytesToString,sN]
            |some ad=>exact run_bytesToString w ad 0 c [] (by simp [loadCells,loadCellsFrom])
          · have hl:(bs.map λb=>([AV.int .u8 b]:List AV)).length=bs.length:=by simp
            rw [hl]
            refine run_bytesToString w ad bs.length c bs ?_
            have e2:∀(bs:List Int) (vss:List (List Value)),aAr S w (bs.map λb=>[AV.int .u8 b]) vss->vss=bs.map λb=>[Value.int .u8 b]:=by
             intro bs
             induction bs with
             |nil=>intro vss h;simpa [aAr] using h
             |cons b bs ih=>
              intro vss h
              simp only [List.map_cons,aAr,aAt,aAi] at h
              obtain ⟨v,r,rfl,⟨u,q,rfl,rfl,rfl⟩,hr⟩:=h
              rw [ih r hr];rfl
            have e3:=e2 bs vss k1
            subst e3
            have:=run_loadCells_list (P:=P) w ad (bs.map (Value.int .u8)) (λj v hj=>by
             rw [List.getElem?_map] at hj
             cases hb:bs[j]? with
             |none=>rw [hb] at hj;cases hj
             |some b=>
              rw [hb] at hj
              simp only [Option.map_some,Option.some.injEq] at hj
              subst hj
              have:=k3 j [.int .u8 b] (by rw [List.getElem?_map,hb];rfl) 0 _ rfl
              simpa using this)
            simpa using this
         simp only [execOp,ho]
         rw [Sem.run_bind,hrun];rfl
       · exact h.elim
     · exact h.elim
   · exact h.elim
 · exact h.elim
end Go.V
namespace Go.V
open Go.RowKit
variable {P:Program}{gl:Gl}{T:Tab}{B:Base}{S:Nat->Prop}{H:Hp}{a:Act}{w:World}{E:Operand->AV}{n:Nat}{K:AV->List (Nat×Ob)->Prop}{dr:Bool}
mutual
theorem aV6 {S S':Nat->Prop}{w:World}:∀(x:AV) (v:Value),aIr x->aAi S H0 w x v->aAi S' H0 w x v
 | .j,_,_,_=>by simp [aAi]
 | .u,_,_,h| .int _ _,_,_,h| .bool _,_,_,h| .str _,_,_,h| .nils,_,_,h| .nili,_,_,h=>by simpa [aAi] using h
 | .own _ _ _,_,_,h=>by simp only [aAi] at h ⊢;exact h
 | .ptr _ _ _,_,_,h| .bptr _ _,_,_,h| .map _,_,_,h=>by simp only [aAi] at h ⊢;exact h
 | .fr _ _ _,_,_,h=>by simp [aAi] at h
 | .rp _,_,f,_=>by simp [aIr] at f
 | .ro sz es,v,f,h=>by
   simp only [aIr] at f;subst f
   simp only [aAi] at h ⊢
   obtain ⟨A,c,e,h1,h2,_⟩:=h
   exact ⟨A,c,e,h1,h2,by simp⟩
 | .agg cs,v,f,h=>by
   simp only [aAi,aIr] at f h ⊢
   obtain ⟨vs,e,h1,h2⟩:=h
   exact ⟨vs,e,h1,aL0 cs vs f h2⟩
 | .tup cs,v,f,h| .fn _ cs,v,f,h=>by
   simp only [aAi,aIr] at f h ⊢
   obtain ⟨vs,e,h2⟩:=h
   exact ⟨vs,e,aL0 cs vs f h2⟩
 | .iface t x,v,f,h=>by
   simp only [aAi,aIr] at f h ⊢
   obtain ⟨u,e,h2⟩:=h
   exact ⟨u,e,aV6 x u f h2⟩
theorem aL0 {S S':Nat->Prop}{w:World}:∀(xs:List AV) (vs:List Value),aH3 xs->aAt S H0 w xs vs->aAt S' H0 w xs vs
 |[],vs,_,h=>by simpa [aAt] using h
 |x::xs,vs,f,h=>by
  simp only [aAt,aH3] at f h ⊢
  obtain ⟨v,r,e,h1,h2⟩:=h
  exact ⟨v,r,e,aV6 x v f.1 h1,aL0 xs r f.2 h2⟩
end
theorem aT4 {S S':Nat->Prop}{w:World}:∀(es:List (List AV)) (vss:List (List Value)),(∀ cs∈es,aH3 cs)->aAr S w es vss->aAr S' w es vss
 |[],vss,_,h=>by simpa [aAr] using h
 |x::xs,vss,f,h=>by
  simp only [aAr] at h ⊢
  obtain ⟨v,r,e,h1,h2⟩:=h
  exact ⟨v,r,e,aL0 x v (f x (by simp)) h1,aT4 xs r (λcs hc=>f cs (List.mem_cons_of_mem _ hc)) h2⟩
mutual
theorem aZr {S S':Nat->Prop}{b:Nat}{w:World}:∀(x:AV) (v:Value) (F:List (Nat×Nat)),aIr x->aDw S b w x v F->aDw S' b w x v F
 | .fr e sz es,v,F,f,h=>by
   simp only [aDw,aIr] at f h ⊢
   obtain ⟨b',cap,h1,h2,h3,cur,vss,k1,k2,k3,k4,k5,k6,k7⟩:=h
   exact ⟨b',cap,h1,h2,h3,cur,vss,k1,k2,k3,k4,k5,aT4 es vss f k6,k7⟩
 | .agg cs,v,F,f,h=>by
   simp only [aDw,aIr] at f h ⊢
   obtain ⟨vs,e,h1,h2⟩:=h
   exact ⟨vs,e,h1,aNe cs vs F f h2⟩
 | .tup cs,v,F,f,h=>by
   simp only [aDw,aIr] at f h ⊢
   obtain ⟨vs,e,h2⟩:=h
   exact ⟨vs,e,aNe cs vs F f h2⟩
 | .j,v,F,f,h| .u,v,F,f,h| .int _ _,v,F,f,h| .bool _,v,F,f,h| .str _,v,F,f,h| .nils,v,F,f,h| .nili,v,F,f,h
 | .own _ _ _,v,F,f,h| .ptr _ _ _,v,F,f,h| .bptr _ _,v,F,f,h| .map _,v,F,f,h| .rp _,v,F,f,h| .ro _ _,v,F,f,h| .fn _ _,v,F,f,h| .iface _ _,v,F,f,h=>by
   simp only [aDw] at h ⊢
   exact ⟨h.1,aV6 _ _ f h.2⟩
theorem aNe {S S':Nat->Prop}{b:Nat}{w:World}:∀(xs:List AV) (vs:List Value) (F:List (Nat×Nat)),aH3 xs->aC5 S b w xs vs F->aC5 S' b w xs vs F
 |[],vs,F,_,h=>by simpa [aC5] using h
 |x::xs,vs,F,f,h=>by
  simp only [aC5,aH3] at f h ⊢
  obtain ⟨v,r,F1,F2,e,e',h1,h2⟩:=h
  exact ⟨v,r,F1,F2,e,e',aZr x v F1 f.1 h1,aNe xs r F2 f.2 h2⟩
end
mutual
theorem aXf:∀(x:AV),roQ x=some false->aIr x
 | .ro sz [],_=>by simp [aIr]
 | .ro sz (_::_),h=>by simp [roQ] at h
 | .rp _,h=>by simp [roQ] at h
 | .fr _ _ _,h=>by simp [roQ] at h
 | .agg cs,h| .tup cs,h| .fn _ cs,h=>by simp only [roQ,aIr] at h ⊢;exact bAs cs h
 | .iface _ x,h=>by simp only [roQ,aIr] at h ⊢;exact aXf x h
 | .j,_| .u,_| .int _ _,_| .bool _,_| .str _,_| .nils,_| .nili,_| .own _ _ _,_| .ptr _ _ _,_| .bptr _ _,_| .map _,_=>by simp [aIr]
theorem bAs:∀(xs:List AV),bXs xs=some false->aH3 xs
 |[],_=>by simp [aH3]
 |x::xs,h=>by
  simp only [bXs] at h
  split at h
  · cases h
  · simp only [aH3];exact ⟨aXf x ‹_›,bAs xs h⟩
  · split at h
    · cases h
    · cases h
end
theorem bFa (h:Wd gl B S H w) (X:Nat->Prop) (hX:∀b,X b->b<w.heap.size/\∀p s,H.at p=some (some s)->H.β p≠b) (hB:∀b,X b->B.w0.heap.size<=b):Eff gl B S H w (λb=>S b\/X b) H w []:=by
 have L:Later S H w (λb=>S b\/X b) H w:=⟨λb hb _=>⟨.inl hb,rfl⟩,Nat.le_refl _,λp hp=>⟨hp,λs hs=>⟨hs,rfl,rfl⟩⟩⟩
 refine ⟨rfl,⟨⟨?_,?_,?_,?_,λp q s s' hp hq he hn=>h.ok.inj p q s s' hp hq he λhs=>hn (.inl hs),?_,λp s hp hns=>h.ok.mine p s hp λh=>hns (.inl h)⟩,h.kept,h.gl.later L,λb hb=>hb.elim (h.bs b) λhx=>.inr (.inl (hB b hx)),λb hb=>.inl (h.sup b hb)⟩,L⟩
 · rintro b (hb|hb)
   · exact h.ok.sb b hb
   · exact (hX b hb).1
 · intro p fz e sz es ho
   obtain ⟨h1,h2⟩:=h.ok.row p _ _ _ _ ho
   refine ⟨h1.later L.zero rfl,?_⟩
   rw [<- h2]
   exact ⟨λhh=>hh.resolve_right λhx=>(hX _ hx).2 p _ (aCk ho) rfl,.inl⟩
 · intro p t cs ho
   obtain ⟨vs,h1,h2,h3,h4⟩:=h.ok.box p t cs ho
   exact ⟨vs,h1,h2,aAt.later L cs vs h3,λhh=>hh.elim h4 λhx=>(hX _ hx).2 p _ (aIn ho) rfl⟩
 · intro p l ho
   obtain ⟨es,c,h1,h2,h3⟩:=h.ok.kv p l ho
   exact ⟨es,c,h1,aC6.later L l _ h2,λhh=>hh.elim h3 λhx=>(hX _ hx).2 p _ (aPo ho) rfl⟩
 · intro p x k ho
   obtain ⟨h1,h2⟩:=h.ok.it p x k ho
   exact ⟨h1,λhh=>hh.elim h2 λhx=>(hX _ hx).2 p _ (aHe ho) rfl⟩
def bUi (B:Base) (S:Nat->Prop) (H:Hp) (F:List (Nat×Nat)):Prop:=(F.map (·.1)).Nodup/\∀q∈F,¬S q.1/\(∀ p s,H.at p=some (some s)->H.β p≠q.1)/\B.w0.heap.size<=q.1
mutual
theorem aMy:∀(x:AV) (n q:Nat) (ob:Ob),(q,ob)∈(aEs n x).2->n<=q/\q<n+(aEs n x).2.length
 | .fr e sz es,n,q,ob,h=>by simp [aEs] at h ⊢;omega
 | .agg cs,n,q,ob,h=>by simp only [aEs] at h ⊢;exact aH4 cs n q ob h
 | .tup cs,n,q,ob,h=>by simp only [aEs] at h ⊢;exact aH4 cs n q ob h
 | .j,n,q,ob,h| .u,n,q,ob,h| .int _ _,n,q,ob,h| .bool _,n,q,ob,h| .str _,n,q,ob,h| .nils,n,q,ob,h| .nili,n,q,ob,h
 | .own _ _ _,n,q,ob,h| .ptr _ _ _,n,q,ob,h| .bptr _ _,n,q,ob,h| .map _,n,q,ob,h| .rp _,n,q,ob,h| .ro _ _,n,q,ob,h| .fn _ _,n,q,ob,h| .iface _ _,n,q,ob,h=>by simp [aEs] at h
theorem aH4:∀(xs:List AV) (n q:Nat) (ob:Ob),(q,ob)∈(aFk n xs).2->n<=q/\q<n+(aFk n xs).2.length
 |[],n,q,ob,h=>by simp [aFk] at h
 |x::xs,n,q,ob,h=>by
  simp only [aFk,List.mem_append,List.length_append] at h ⊢
  rcases h with h|h
  · have:=aMy x n q ob h;omega
  · have:=aH4 xs _ q ob h;omega
end
structure Abs (gl:Gl) (B:Base) (S:Nat->Prop) (H:Hp) (w:World) (H':Hp) (d:List (Nat×Ob)) (F:List (Nat×Nat)):Prop where
 eff:Eff gl B S H w S H' w d
 old:∀q,(∀ ob,(q,ob) ∉ d)->aAd H'.h q=aAd H.h q
 β:∀p s,H'.at p=some (some s)->(H.at p=some (some s)/\H'.β p=H.β p)\/∃q∈F,H'.β p=q.1
theorem bH0 (h:Wd gl B S H w){n e sz:Nat}{es:List (List AV)}{b cap:Nat}(hrow:aO7 S w b cap e sz es) (hF:bUi B S H [(b,cap)]) (hd:aAd H.h n= .dead):
 Abs gl B S H w (H.put n (.row false e sz es) b cap) [(n,.row false e sz es)] [(b,cap)]/\aAi S (H.put n (.row false e sz es) b cap) w (.own n 0 es.length) (.slice (some ⟨b,0,none⟩) es.length cap):=by
 obtain ⟨h1,h2,h3⟩:=hF.2 (b,cap) (by simp)
 obtain ⟨cur,vss,k1,k2,k3,k4,k5,k6,k7,k8⟩:=hrow
 refine ⟨⟨aV5 h hd h1 h2 (.inl h3) ⟨rfl,cur,vss,k1,k2,k3,k4,k5,k6,k7,k8⟩,λq hq=>?_,λp s hp=>?_⟩,?_⟩
 · have:q≠n:=λe=>hq _ (by rw [e];exact List.mem_singleton.2 rfl)
   simp [Hp.put,aBx,this]
 · by_cases hpn:p=n
   · right;subst hpn;exact ⟨(b,cap),by simp,aB7.2.1⟩
   · left
     simp only [Hp.at,Hp.put,aBx,hpn,if_false] at hp ⊢
     exact ⟨hp,trivial⟩
 · simp only [aAi]
   refine ⟨rfl,by rw [aB7.1];simp [Ob.sz],λs hs=>?_⟩
   rw [aB7.1] at hs
   simp only [Ob.sz,Option.some.injEq] at hs
   subst hs
   rw [aB7.2.1,aB7.2.2]
   simp
mutual
theorem aLm {S:Nat->Prop}{w:World}{b0:Nat}:∀(x:AV) (n:Nat) (H:Hp) (v:Value) (F:List (Nat×Nat)),Wd gl B S H w->aDw S b0 w x v F->bUi B S H F->(∀ q ob,(q,ob)∈(aEs n x).2->aAd H.h q= .dead)->
 ∃H',Abs gl B S H w H' (aEs n x).2 F/\aAi S H' w (aEs n x).1 v
 | .fr e sz es,n,H,v,F,h,hr,hF,hd=>by
   simp only [aDw] at hr
   obtain ⟨b,cap,rfl,rfl,_,hrow⟩:=hr
   exact ⟨_,bH0 h hrow hF (hd n _ (by simp only [aEs];exact List.mem_singleton.2 rfl))⟩
 | .agg cs,n,H,v,F,h,hr,hF,hd=>by
   simp only [aDw] at hr
   obtain ⟨vs,rfl,h1,hl⟩:=hr
   obtain ⟨H',k1,k2⟩:=aMx cs n H vs F h hl hF hd
   exact ⟨H',k1,by simp only [aEs,aAi];exact ⟨vs,rfl,h1,k2⟩⟩
 | .tup cs,n,H,v,F,h,hr,hF,hd=>by
   simp only [aDw] at hr
   obtain ⟨vs,rfl,hl⟩:=hr
   obtain ⟨H',k1,k2⟩:=aMx cs n H vs F h hl hF hd
   exact ⟨H',k1,by simp only [aEs,aAi];exact ⟨vs,rfl,k2⟩⟩
 | .j,n,H,v,F,h,hr,hF,hd| .u,n,H,v,F,h,hr,hF,hd| .int _ _,n,H,v,F,h,hr,hF,hd| .bool _,n,H,v,F,h,hr,hF,hd| .str _,n,H,v,F,h,hr,hF,hd| .nils,n,H,v,F,h,hr,hF,hd
 | .nili,n,H,v,F,h,hr,hF,hd| .own _ _ _,n,H,v,F,h,hr,hF,hd| .ptr _ _ _,n,H,v,F,h,hr,hF,hd| .bptr _ _,n,H,v,F,h,hr,hF,hd| .map _,n,H,v,F,h,hr,hF,hd| .rp _,n,H,v,F,h,hr,hF,hd
 | .ro _ _,n,H,v,F,h,hr,hF,hd| .fn _ _,n,H,v,F,h,hr,hF,hd| .iface _ _,n,H,v,F,h,hr,hF,hd=>by
   simp only [aDw] at hr
   exact ⟨H,⟨Eff.refl h,λ_ _=>rfl,λp s hp=>.inl ⟨hp,rfl⟩⟩,aAi.plain hr.2⟩
theorem aMx {S:Nat->Prop}{w:World}{b0:Nat}:∀(xs:List AV) (n:Nat) (H:Hp) (vs:List Value) (F:List (Nat×Nat)),Wd gl B S H w->aC5 S b0 w xs vs F->bUi B S H F->(∀ q ob,(q,ob)∈(aFk n xs).2->aAd H.h q= .dead)->
 ∃H',Abs gl B S H w H' (aFk n xs).2 F/\aAt S H' w (aFk n xs).1 vs
 |[],n,H,vs,F,h,hr,hF,hd=>by
  simp only [aC5] at hr
  obtain ⟨rfl,rfl⟩:=hr
  exact ⟨H,⟨Eff.refl h,λ_ _=>rfl,λp s hp=>.inl ⟨hp,rfl⟩⟩,by simp [aFk,aAt]⟩
 |x::xs,n,H,vs,F,h,hr,hF,hd=>by
  simp only [aC5] at hr
  obtain ⟨v,r,F1,F2,rfl,rfl,hx,hxs⟩:=hr
  simp only [aFk,List.mem_append] at hd ⊢
  obtain ⟨hn,hall⟩:=hF
  rw [List.map_append,List.nodup_append] at hn
  obtain ⟨H1,k1,k2⟩:=aLm x n H v F1 h hx ⟨hn.1,λq hq=>hall q (List.mem_append_left _ hq)⟩ (λq ob hq=>hd q ob (.inl hq))
  obtain ⟨H2,l1,l2⟩:=aMx xs (n+(aEs n x).2.length) H1 r F2 k1.eff.wd hxs ⟨hn.2.1,λq hq=>by
   obtain ⟨m1,m2,m3⟩:=hall q (List.mem_append_right _ hq)
   refine ⟨m1,λp s hp e=>?_,m3⟩
   rcases k1.β p s hp with ⟨e1,e2⟩|⟨q',hq',e1⟩
   · exact m2 p s e1 (e2 ▸ e)
   · exact hn.2.2 _ (List.mem_map_of_mem hq') _ (List.mem_map_of_mem hq) (e1.symm.trans e)⟩ (λq ob hq=>by
   rw [k1.old q (λob' hob'=>by
    have:=aMy x n q ob' hob'
    have:=aH4 xs _ q ob hq
    omega)]
   exact hd q ob (.inr hq))
  refine ⟨H2,⟨k1.eff.trans l1.eff,λq hq=>?_,λp s hp=>?_⟩,?_⟩
  · rw [l1.old q (λob hob=>hq ob (List.mem_append_right _ hob)),k1.old q (λob hob=>hq ob (List.mem_append_left _ hob))]
  · rcases l1.β p s hp with ⟨e1,e2⟩|⟨q,hq,e1⟩
    · rcases k1.β p s e1 with ⟨e3,e4⟩|⟨q,hq,e3⟩
      · exact .inl ⟨e3,e2.trans e4⟩
      · exact .inr ⟨q,List.mem_append_left _ hq,e2.trans e3⟩
    · exact .inr ⟨q,List.mem_append_right _ hq,e1⟩
  · simp only [aAt]
    exact ⟨v,r,rfl,aAi.later l1.eff.later _ _ k2,l2⟩
end
end Go.V
namespace Go.V
open Go.RowKit
variable {P:Program}{gl:Gl}{T:Tab}{B:Base}{S:Nat->Prop}{H:Hp}{a:Act}{w:World}
theorem aJl:∀{ps:List Nat}{i p j:Nat},bUc ps i p=some j->i<=j/\ps[j - i]? =some p
 |[],i,p,j,h=>by simp [bUc] at h
 |q::ps,i,p,j,h=>by
  simp only [bUc] at h
  split at h
  · rename_i hb
    simp only [Option.some.injEq] at h
    subst h
    exact ⟨Nat.le_refl _,by simp [Nat.eq_of_beq_eq_true hb]⟩
  · obtain ⟨h1,h2⟩:=aJl h
    refine ⟨by omega,?_⟩
    rw [show j - i=(j - (i+1))+1 by omega]
    simpa using h2
theorem aGb (h:List Ob) (ps:List Nat):∀(qs:List Nat) (i:Nat),aAd (aOa h ps qs) i=match qs[i]? with|some q=>aTf ps (aAd h q)|none=>.dead
 |[],i=>by simp [aOa,aAd]
 |q::qs,0=>by simp [aOa,aAd]
 |q::qs,i+1=>by simp only [aOa,aAd,List.getElem?_cons_succ];exact aGb h ps qs i
def Hp.keep (H:Hp) (ps:List Nat):Hp:=⟨aOa H.h ps ps,λi=>H.β (ps.getD i 0),λi=>H.κ (ps.getD i 0)⟩
theorem bS3 (ps:List Nat) (o:Ob):(aTf ps o).sz=o.sz:=by cases o<;>rfl
theorem aDl {ps:List Nat}{i q:Nat}(h:ps[i]? =some q):(H.keep ps).at i=H.at q/\(H.keep ps).β i=H.β q/\(H.keep ps).κ i=H.κ q:=by
 refine ⟨?_,?_,?_⟩
 · unfold Hp.at Hp.keep
   rw [aGb,h]
   exact bS3 _ _
 · simp [Hp.keep,h]
 · simp [Hp.keep,h]
mutual
theorem aRz {S:Nat->Prop}{H:Hp}{w:World}(ps:List Nat):∀(x:AV) (v:Value),aAi S H w x v->aAi S (H.keep ps) w (ren ps x) v
 | .own q off len,v,h=>by
   simp only [ren]
   split
   · rename_i i hi
     obtain ⟨k1,k2,k3⟩:=aDl (H:=H) (aJl hi).2
     simp only [Nat.sub_zero] at k1 k2 k3
     simp only [aAi] at h ⊢
     rw [k1,k2,k3];exact h
   · simp [aAi]
 | .ptr q i' c,v,h=>by
   simp only [ren]
   split
   · rename_i i hi
     obtain ⟨k1,k2,k3⟩:=aDl (H:=H) (aJl hi).2
     simp only [Nat.sub_zero] at k1 k2 k3
     simp only [aAi] at h ⊢
     rw [k1,k2];exact h
   · simp [aAi]
 | .bptr q c,v,h=>by
   simp only [ren]
   split
   · rename_i i hi
     obtain ⟨k1,k2,k3⟩:=aDl (H:=H) (aJl hi).2
     simp only [Nat.sub_zero] at k1 k2 k3
     simp only [aAi] at h ⊢
     rw [k1,k2];exact h
   · simp [aAi]
 | .map q,v,h=>by
   simp only [ren]
   split
   · rename_i i hi
     obtain ⟨k1,k2,k3⟩:=aDl (H:=H) (aJl hi).2
     simp only [Nat.sub_zero] at k1 k2 k3
     simp only [aAi] at h ⊢
     rw [k1,k2];exact h
   · simp [aAi]
 | .agg cs,v,h=>by
   simp only [aAi,ren] at h ⊢
   obtain ⟨vs,e,h1,h2⟩:=h
   exact ⟨vs,e,h1,aMi ps cs vs h2⟩
 | .tup cs,v,h| .fn _ cs,v,h=>by
   simp only [aAi,ren] at h ⊢
   obtain ⟨vs,e,h2⟩:=h
   exact ⟨vs,e,aMi ps cs vs h2⟩
 | .iface t x,v,h=>by
   simp only [aAi,ren] at h ⊢
   obtain ⟨u,e,h2⟩:=h
   exact ⟨u,e,aRz ps x u h2⟩
 | .j,v,h| .u,v,h| .int _ _,v,h| .bool _,v,h| .str _,v,h| .nils,v,h| .nili,v,h=>by simpa [aAi,ren] using h
 | .fr _ _ _,v,h=>by simp [aAi] at h
 | .ro _ _,v,h| .rp _,v,h=>by simp only [aAi,ren] at h ⊢;exact h
theorem aMi {S:Nat->Prop}{H:Hp}{w:World}(ps:List Nat):∀(xs:List AV) (vs:List Value),aAt S H w xs vs->aAt S (H.keep ps) w (bBd ps xs) vs
 |[],vs,h=>by simpa [aAt,bBd] using h
 |x::xs,vs,h=>by
  simp only [aAt,bBd] at h ⊢
  obtain ⟨v,r,e,h1,h2⟩:=h
  exact ⟨v,r,e,aRz ps x v h1,aMi ps xs r h2⟩
end
theorem bAr {S:Nat->Prop}{H:Hp}{w:World}(ps:List Nat):∀(l:List (ByteArray×AV)) (es:List MapEntry),aC6 S H w l es->aC6 S (H.keep ps) w (l.map λkx=>(kx.1,ren ps kx.2)) es
 |[],es,h=>by simpa [aC6] using h
 |(k,x)::l,es,h=>by
  simp only [aC6,List.map_cons] at h ⊢
  obtain ⟨v,b,es',e,h1,h2⟩:=h
  exact ⟨v,b,es',e,aRz ps x v h1,bAr ps l es' h2⟩
theorem aWz:∀{ps:List Nat},aMb ps=true->∀{i j q:Nat},ps[i]? =some q->ps[j]? =some q->i=j
 |[],_,i,j,q,hi,_=>by simp at hi
 |p::ps,h,i,j,q,hi,hj=>by
  simp only [aMb,Bool.and_eq_true,Bool.not_eq_true'] at h
  have hno:∀k:Nat,ps[k]? ≠some p:=λk hk=>by
   have:=List.any_eq_false.1 h.1 p (List.mem_of_getElem? hk)
   simp at this
  cases i with
  |zero=>
   cases j with
   |zero=>rfl
   |succ j=>simp at hi hj;subst hi;exact absurd hj (hno j)
  |succ i=>
   cases j with
   |zero=>simp at hi hj;subst hj;exact absurd hi (hno i)
   |succ j=>simp at hi hj;rw [aWz h.2 hi hj]
theorem bN7 (hok:HeapOK S B H w){ps:List Nat}(hp:aMb ps=true):HeapOK S B (H.keep ps) w:=by
 have hat:∀i s,(H.keep ps).at i=some (some s)->∃q,ps[i]? =some q/\H.at q=some (some s):=λi s hs=>by
  cases hq:ps[i]? with
  |none=>
   unfold Hp.at Hp.keep at hs
   rw [aGb,hq] at hs
   cases hs
  |some q=>exact ⟨q,rfl,by rw [<- (aDl (H:=H) hq).1];exact hs⟩
 have hob:∀i o,aAd (H.keep ps).h i=o->o≠ .dead->∃q,ps[i]? =some q/\aTf ps (aAd H.h q)=o:=λi o ho hne=>by
  unfold Hp.keep at ho
  rw [aGb] at ho
  cases hq:ps[i]? with
  |none=>rw [hq] at ho;exact absurd ho.symm hne
  |some q=>rw [hq] at ho;exact ⟨q,rfl,ho⟩
 refine ⟨hok.sb,?_,?_,?_,?_,?_,?_⟩
 · intro i fz e sz es ho
   obtain ⟨q,hq,hoq⟩:=hob i _ ho (by simp)
   obtain ⟨k1,k2,k3⟩:=aDl (H:=H) hq
   cases hg:aAd H.h q<;>rw [hg] at hoq<;>simp [aTf] at hoq
   obtain ⟨rfl,rfl,rfl,rfl⟩:=hoq
   rw [k2,k3]
   exact hok.row q _ _ _ _ hg
 · intro i t cs ho
   obtain ⟨q,hq,hoq⟩:=hob i _ ho (by simp)
   obtain ⟨k1,k2,k3⟩:=aDl (H:=H) hq
   cases hg:aAd H.h q<;>rw [hg] at hoq<;>simp [aTf] at hoq
   obtain ⟨rfl,rfl⟩:=hoq
   obtain ⟨vs,h1,h2,h3,h4⟩:=hok.box q _ _ hg
   rw [k2]
   exact ⟨vs,h1,h2,aMi ps _ vs h3,h4⟩
 · intro i l ho
   obtain ⟨q,hq,hoq⟩:=hob i _ ho (by simp)
   obtain ⟨k1,k2,k3⟩:=aDl (H:=H) hq
   cases hg:aAd H.h q<;>rw [hg] at hoq<;>simp [aTf] at hoq
   subst hoq
   obtain ⟨es,c,h1,h2,h3⟩:=hok.kv q _ hg
   rw [k2]
   exact ⟨es,c,h1,bAr ps _ _ h2,h3⟩
 · intro i j s s' hi hj he hnS
   obtain ⟨q,hq,hq'⟩:=hat i s hi
   obtain ⟨r,hr',hr''⟩:=hat j s' hj
   rw [(aDl (H:=H) hq).2.1,(aDl (H:=H) hr').2.1] at he
   rw [(aDl (H:=H) hq).2.1] at hnS
   have:=hok.inj q r s s' hq' hr'' he hnS
   subst this
   exact aWz hp hq hr'
 · intro i x k ho
   obtain ⟨q,hq,hoq⟩:=hob i _ ho (by simp)
   obtain ⟨k1,k2,k3⟩:=aDl (H:=H) hq
   cases hg:aAd H.h q<;>rw [hg] at hoq<;>simp [aTf] at hoq
   obtain ⟨rfl,rfl⟩:=hoq
   rw [k2]
   exact hok.it q _ _ hg
 · intro i s hi hns
   obtain ⟨q,hq,hq'⟩:=hat i s hi
   rw [(aDl (H:=H) hq).2.1] at hns ⊢
   exact hok.mine q s hq' hns
def Tr (ps:List Nat) (n:Nat) (H' H'':Hp):Prop:=∀i,H'.at i≠none->H''.at (trP ps n i)=H'.at i/\H''.β (trP ps n i)=H'.β i/\H''.κ (trP ps n i)=H'.κ i
mutual
theorem bGm {S:Nat->Prop}{H' H'':Hp}{w:World}{ps:List Nat}{n:Nat}(ht:Tr ps n H' H''):∀(x:AV) (v:Value),aAi S H' w x v->aAi S H'' w (tr ps n x) v
 | .own q off len,v,h=>by
   simp only [aAi,tr] at h ⊢
   obtain ⟨k1,k2,k3⟩:=ht q h.2.1
   rw [k1,k2,k3];exact h
 | .ptr q i' c,v,h=>by
   simp only [aAi,tr] at h ⊢
   obtain ⟨k1,k2,k3⟩:=ht q h.2.1
   rw [k1,k2];exact h
 | .bptr q c,v,h| .map q,v,h=>by
   simp only [aAi,tr] at h ⊢
   obtain ⟨k1,k2,k3⟩:=ht q h.2.1
   rw [k1,k2];exact h
 | .agg cs,v,h=>by
   simp only [aAi,tr] at h ⊢
   obtain ⟨vs,e,h1,h2⟩:=h
   exact ⟨vs,e,h1,aXl ht cs vs h2⟩
 | .tup cs,v,h| .fn _ cs,v,h=>by
   simp only [aAi,tr] at h ⊢
   obtain ⟨vs,e,h2⟩:=h
   exact ⟨vs,e,aXl ht cs vs h2⟩
 | .iface t x,v,h=>by
   simp only [aAi,tr] at h ⊢
   obtain ⟨u,e,h2⟩:=h
   exact ⟨u,e,bGm ht x u h2⟩
 | .j,v,h| .u,v,h| .int _ _,v,h| .bool _,v,h| .str _,v,h| .nils,v,h| .nili,v,h=>by simpa [aAi,tr] using h
 | .fr _ _ _,v,h=>by simp [aAi] at h
 | .ro _ _,v,h| .rp _,v,h=>by simp only [aAi,tr] at h ⊢;exact h
theorem aXl {S:Nat->Prop}{H' H'':Hp}{w:World}{ps:List Nat}{n:Nat}(ht:Tr ps n H' H''):∀(xs:List AV) (vs:List Value),aAt S H' w xs vs->aAt S H'' w (trL ps n xs) vs
 |[],vs,h=>by simpa [aAt,trL] using h
 |x::xs,vs,h=>by
  simp only [aAt,trL] at h ⊢
  obtain ⟨v,r,e,h1,h2⟩:=h
  exact ⟨v,r,e,bGm ht x v h1,aXl ht xs r h2⟩
end
theorem bGn {S:Nat->Prop}{H' H'':Hp}{w:World}{ps:List Nat}{n:Nat}(ht:Tr ps n H' H''):∀(l:List (ByteArray×AV)) (es:List MapEntry),aC6 S H' w l es->aC6 S H'' w (l.map λkx=>(kx.1,tr ps n kx.2)) es
 |[],es,h=>by simpa [aC6] using h
 |(k,x)::l,es,h=>by
  simp only [aC6,List.map_cons] at h ⊢
  obtain ⟨v,b,es',e,h1,h2⟩:=h
  exact ⟨v,b,es',e,bGm ht x v h1,bGn ht l es' h2⟩
theorem aR8 (ps:List Nat) (n:Nat) (o:Ob):(bUd ps n o).sz=o.sz:=by cases o<;>rfl
end Go.V
namespace Go.V
open Go.RowKit
variable {P:Program}{gl:Gl}{T:Tab}{B:Base}{S:Nat->Prop}{H:Hp}{a:Act}{w:World}
theorem aUs (n:Nat):∀(ps:List Nat) (i:Nat),trP ps n i=(ps[i]?).getD (n+(i - ps.length))
 |[],i=>by simp [trP]
 |p::ps,0=>by simp [trP]
 |p::ps,i+1=>by simp only [trP,aUs n ps i,List.getElem?_cons_succ,List.length_cons];congr 2;omega
theorem bXv {ps:List Nat}{n:Nat}(hnd:aMb ps=true) (hlt:∀p∈ps,p<n){i j:Nat}(h:trP ps n i=trP ps n j):i=j:=by
 rw [aUs,aUs] at h
 cases hi:ps[i]? with
 |some p=>
  have hpn:=hlt p (List.mem_of_getElem? hi)
  cases hj:ps[j]? with
  |some q=>
   rw [hi,hj] at h
   simp only [Option.getD_some] at h
   subst h
   exact aWz hnd hi hj
  |none=>rw [hi,hj] at h;simp at h;omega
 |none=>
  have h1:=List.getElem?_eq_none_iff.1 hi
  cases hj:ps[j]? with
  |some q=>
   have hqn:=hlt q (List.mem_of_getElem? hj)
   rw [hi,hj] at h;simp at h;omega
  |none=>
   have h2:=List.getElem?_eq_none_iff.1 hj
   rw [hi,hj] at h;simp at h;omega
theorem aI8 {ps:List Nat}{n p:Nat}:∀(l:List Ob) (k:Nat) (h:List Ob),(∀ i,i<l.length->trP ps n (k+i)≠p)->aAd (aDf h (trD ps n k l)) p=aAd h p
 |[],k,h,_=>rfl
 |o::l,k,h,hn=>by
  simp only [trD,aDf]
  rw [aI8 l (k+1) _ λi hi=>by
   have:=hn (i+1) (by simpa using hi)
   rwa [show k+(i+1)=k+1+i by omega] at this]
  rw [aBx,if_neg λe=>hn 0 (by simp) (by simpa using e.symm)]
theorem aZv {ps:List Nat}{n:Nat}(hinj:∀i j,trP ps n i=trP ps n j->i=j):∀(l:List Ob) (k i:Nat) (h:List Ob),i<l.length->aAd (aDf h (trD ps n k l)) (trP ps n (k+i))=bUd ps n (aAd l i)
 |[],k,i,h,hi=>by simp at hi
 |o::l,k,0,h,hi=>by
  simp only [trD,aDf]
  rw [aI8 l (k+1) _ λi hi e=>by have:=hinj _ _ e;omega,aBx]
  simp [aAd]
 |o::l,k,i+1,h,hi=>by
  simp only [trD,aDf]
  rw [show k+(i+1)=k+1+i by omega,aZv hinj l (k+1) i _ (by simpa using hi)]
  rfl
theorem bNu {ps:List Nat}{n:Nat}:∀(l:List Ob) (k i:Nat),i<l.length->∃ob,(trP ps n (k+i),ob)∈trD ps n k l
 |[],k,i,hi=>by simp at hi
 |o::l,k,0,hi=>⟨_,by simp only [trD];exact List.mem_cons_self⟩
 |o::l,k,i+1,hi=>by
  obtain ⟨ob,h⟩:=bNu l (k+1) i (by simpa using hi)
  exact ⟨ob,by simp only [trD];rw [show k+(i+1)=k+1+i by omega];exact List.mem_cons_of_mem _ h⟩
theorem aLp {ps:List Nat}{b:Nat}(h:aGt S (H.keep ps) b):∃p∈ps,∃s,H.at p=some (some s)/\b=H.β p/\¬S b:=by
 obtain ⟨i,s,h1,h2,h3⟩:=h
 cases hq:ps[i]? with
 |none=>
  unfold Hp.at Hp.keep at h1
  rw [aGb,hq] at h1
  cases h1
 |some q=>
  obtain ⟨k1,k2,_⟩:=aDl (H:=H) hq
  exact ⟨q,List.mem_of_getElem? hq,s,by rw [<- k1];exact h1,by rw [<- k2];exact h2,h3⟩
theorem aNv (h:List Ob) (ps:List Nat):∀qs:List Nat,(aOa h ps qs).length=qs.length
 |[]=>rfl
 |q::qs=>by simp [aOa,aNv h ps qs]
theorem bAa (h:List Ob) (ps:List Nat):∀qs:List Nat,aOa h ps qs=qs.map λp=>aTf ps (aAd h p)
 |[]=>rfl
 |q::qs=>by simp [aOa,bAa h ps qs]
open Classical in
theorem bR6 (h:Wd gl B S H w){ps:List Nat}{n:Nat}(hnd:aMb ps=true) (hlt:∀p∈ps,p<n){S':Nat->Prop}{H':Hp}{w':World}
 (hok:HeapOK S' (aIw S (H.keep ps) w) H' w') (hk:Kept (aIw S (H.keep ps) w) w') (h1:∀b,S b->S' b) (h2:∀b,S' b->S b\/w.heap.size<=b\/aGt S (H.keep ps) b)
 (hp:Pin (aIw S (H.keep ps) w) H') (hfree:∀q ob,(q,ob)∈trD ps n 0 H'.h->n<=q->aAd H.h q= .dead):
 ∃H'',Eff gl B S H w S' H'' w' (trD ps n 0 H'.h)/\Tr ps n H' H'':=by
 have hinj:∀i j,trP ps n i=trP ps n j->i=j:=λi j=>bXv hnd hlt
 have hpin:∀i p,ps[i]? =some p->H'.at i≠none/\∀s,H'.at i=some (some s)->H'.β i=H.β p/\H'.κ i=H.κ p/\H.at p=some (some s):=λi p hi=>by
  obtain ⟨k1,k2,k3⟩:=aDl (H:=H) hi
  have hl:i<ps.length:=(List.getElem?_eq_some_iff.1 hi).1
  have:=hp i (H.β p,H.κ p,H.at p) (by
   simp only [aIw,List.getElem?_map]
   rw [List.getElem?_range (by simpa [Hp.keep,aNv] using hl)]
   simp [k1,k2,k3])
  exact this
 let H'':Hp:=⟨aDf H.h (trD ps n 0 H'.h),λp=>if e:∃i,i<H'.h.length/\trP ps n i=p then H'.β e.choose else H.β p,λp=>if e:∃i,i<H'.h.length/\trP ps n i=p then H'.κ e.choose else H.κ p⟩
 have hβ:∀i,i<H'.h.length->H''.β (trP ps n i)=H'.β i/\H''.κ (trP ps n i)=H'.κ i/\aAd H''.h (trP ps n i)=bUd ps n (aAd H'.h i):=λi hi=>by
  have e:∃j,j<H'.h.length/\trP ps n j=trP ps n i:=⟨i,hi,rfl⟩
  have hc:=hinj _ _ e.choose_spec.2
  refine ⟨?_,?_,?_⟩
  · show (if e:_ then _ else _)=_
    rw [dif_pos e,hc]
  · show (if e:_ then _ else _)=_
    rw [dif_pos e,hc]
  · have:=aZv hinj H'.h 0 i H.h hi
    rw [Nat.zero_add] at this;exact this
 have hno:∀p,(¬∃i,i<H'.h.length/\trP ps n i=p)->H''.β p=H.β p/\H''.κ p=H.κ p/\aAd H''.h p=aAd H.h p:=λp hp=>by
  refine ⟨?_,?_,?_⟩
  · show (if e:_ then _ else _)=_
    rw [dif_neg hp]
  · show (if e:_ then _ else _)=_
    rw [dif_neg hp]
  · exact aI8 H'.h 0 H.h λi hi e=>hp ⟨i,hi,by rwa [Nat.zero_add] at e⟩
 have hlen:∀i,H'.at i≠none->i<H'.h.length:=λi hi=>Classical.byContradiction λhn=>hi (by unfold Hp.at;rw [aOl _ _ (Nat.not_lt.1 hn)];rfl)
 have hTr:Tr ps n H' H'':=λi hi=>by
  obtain ⟨k1,k2,k3⟩:=hβ i (hlen i hi)
  exact ⟨by unfold Hp.at;rw [k3,aR8],k1,k2⟩
 have hps:∀p∈ps,∃i,i<H'.h.length/\trP ps n i=p:=λp hp=>by
  obtain ⟨i,hi⟩:=List.getElem?_of_mem hp
  exact ⟨i,hlen i (hpin i p hi).1,by rw [aUs,hi];rfl⟩
 have hblk:∀b,b<w.heap.size->¬aGt S (H.keep ps) b->w'.heap[b]? =w.heap[b]? :=λb hb hn=>hk.block b hb hn
 have L:Later S H w S' H'' w':=⟨λb hb hlt=>⟨h1 b hb,hblk b hlt λ⟨_,_,_,_,hh⟩=>hh hb⟩,hk.size,λp hpn=>by
  by_cases e:∃i,i<H'.h.length/\trP ps n i=p
  · obtain ⟨i,hi,rfl⟩:=e
    obtain ⟨k1,k2,k3⟩:=hβ i hi
    cases hq:ps[i]? with
    |some q=>
     have eq:trP ps n i=q:=by rw [aUs,hq];rfl
     obtain ⟨l1,l2⟩:=hpin i q hq
     refine ⟨by rw [(hTr i l1).1];exact l1,λs hs=>?_⟩
     rw [(hTr i l1).1] at hs
     obtain ⟨m1,m2,m3⟩:=l2 s hs
     rw [k1,k2,m1,m2,eq]
     exact ⟨m3,rfl,rfl⟩
    |none=>
     have hge:n<=trP ps n i:=by rw [aUs,hq];simp
     obtain ⟨ob,hm⟩:=bNu (ps:=ps) (n:=n) H'.h 0 i hi
     rw [Nat.zero_add] at hm
     exact absurd (by unfold Hp.at;rw [hfree _ _ hm hge];rfl) hpn
  · obtain ⟨k1,k2,k3⟩:=hno p e
    have:H''.at p=H.at p:=by unfold Hp.at;rw [k3]
    rw [this,k1,k2]
    exact ⟨hpn,λs hs=>⟨hs,rfl,rfl⟩⟩⟩
 have other:∀p s,(¬∃i,i<H'.h.length/\trP ps n i=p)->H.at p=some (some s)->¬aGt S (H.keep ps) (H.β p):=λp s hp hs hb=>by
  obtain ⟨q,hq,s',g1,g2,g3⟩:=aLp hb
  have:=h.ok.inj p q _ _ hs g1 g2 g3
  subst this
  exact hp (hps p hq)
 have mineOf:∀b,aGt S (H.keep ps) b->B.w0.heap.size<=b\/B.M b:=λb hb=>by
  obtain ⟨q,hq,s',g1,g2,g3⟩:=aLp hb
  subst g2
  exact h.ok.mine q s' g1 g3
 have at_no:∀p,(¬∃i,i<H'.h.length/\trP ps n i=p)->H''.at p=H.at p:=λp e=>by unfold Hp.at;rw [(hno p e).2.2]
 have notS':∀p s,(¬∃i,i<H'.h.length/\trP ps n i=p)->H.at p=some (some s)->(S' (H.β p)↔S (H.β p)):=λp s hp hs=>by
  refine ⟨λhh=>?_,h1 _⟩
  rcases h2 _ hh with hh|hh|hh
  · exact hh
  · exact absurd (aCc h.ok hs) (Nat.not_lt.2 hh)
  · exact absurd hh (other p s hp hs)
 refine ⟨H'',⟨rfl,⟨⟨hok.sb,?_,?_,?_,?_,?_,?_⟩,⟨hk.os.trans h.kept.os,hk.tape.trans h.kept.tape,hk.output.trans h.kept.output,Nat.le_trans h.kept.size hk.size,?_⟩,h.gl.later L,?_,λb hb=>h1 b (h.sup b hb)⟩,L⟩,hTr⟩
 · intro p fz e sz es ho
   by_cases hh:∃i,i<H'.h.length/\trP ps n i=p
   · obtain ⟨i,hi,rfl⟩:=hh
     obtain ⟨k1,k2,k3⟩:=hβ i hi
     rw [k3] at ho
     rw [k1,k2]
     cases hg:aAd H'.h i<;>rw [hg] at ho<;>simp [bUd] at ho
     obtain ⟨rfl,rfl,rfl,rfl⟩:=ho
     exact hok.row i _ _ _ _ hg
   · obtain ⟨k1,k2,k3⟩:=hno p hh
     rw [k3] at ho
     rw [k1,k2]
     obtain ⟨r1,r2⟩:=h.ok.row p _ _ _ _ ho
     refine ⟨r1.later L.zero (hblk _ (aCc h.ok (aCk ho)) (other p _ hh (aCk ho))),?_⟩
     rw [notS' p _ hh (aCk ho)];exact r2
 · intro p t cs ho
   by_cases hh:∃i,i<H'.h.length/\trP ps n i=p
   · obtain ⟨i,hi,rfl⟩:=hh
     obtain ⟨k1,k2,k3⟩:=hβ i hi
     rw [k3] at ho
     rw [k1]
     cases hg:aAd H'.h i<;>rw [hg] at ho<;>simp [bUd] at ho
     obtain ⟨rfl,rfl⟩:=ho
     obtain ⟨vs,q1,q2,q3,q4⟩:=hok.box i _ _ hg
     exact ⟨vs,q1,q2,aXl hTr _ vs q3,q4⟩
   · obtain ⟨k1,k2,k3⟩:=hno p hh
     rw [k3] at ho
     rw [k1]
     obtain ⟨vs,q1,q2,q3,q4⟩:=h.ok.box p _ _ ho
     exact ⟨vs,(hblk _ (aCc h.ok (aIn ho)) (other p _ hh (aIn ho))).trans q1,q2,aAt.later L _ vs q3,by rw [notS' p _ hh (aIn ho)];exact q4⟩
 · intro p l ho
   by_cases hh:∃i,i<H'.h.length/\trP ps n i=p
   · obtain ⟨i,hi,rfl⟩:=hh
     obtain ⟨k1,k2,k3⟩:=hβ i hi
     rw [k3] at ho
     rw [k1]
     cases hg:aAd H'.h i<;>rw [hg] at ho<;>simp [bUd] at ho
     subst ho
     obtain ⟨es,c,q1,q2,q3⟩:=hok.kv i _ hg
     exact ⟨es,c,q1,bGn hTr _ _ q2,q3⟩
   · obtain ⟨k1,k2,k3⟩:=hno p hh
     rw [k3] at ho
     rw [k1]
     obtain ⟨es,c,q1,q2,q3⟩:=h.ok.kv p _ ho
     exact ⟨es,c,(hblk _ (aCc h.ok (aPo ho)) (other p _ hh (aPo ho))).trans q1,aC6.later L _ _ q2,by rw [notS' p _ hh (aPo ho)];exact q3⟩
 · -- a block is one object's alone
   have key:∀p q s s',(¬∃i,i<H'.h.length/\trP ps n i=p)->(∃ i,i<H'.h.length/\trP ps n i=q)->H''.at p=some (some s)->H''.at q=some (some s')->H''.β p=H''.β q->¬S' (H''.β p)->False:=λp q s s' hp hq hs hs' he hn=>by
    obtain ⟨i,hi,rfl⟩:=hq
    rw [at_no p hp] at hs
    obtain ⟨k1,_,_⟩:=hβ i hi
    obtain ⟨l1,_,_⟩:=hno p hp
    rw [l1] at hn
    rw [k1,l1] at he
    have ha:H'.at i=some (some s'):=by
     unfold Hp.at at hs' ⊢;rw [(hβ i hi).2.2,aR8] at hs';exact hs'
    rcases hok.mine i s' ha (by rw [<- he];exact hn) with hh|hh
    · rw [<- he] at hh;exact absurd (aCc h.ok hs) (Nat.not_lt.2 hh)
    · rw [<- he] at hh;exact other p s hp hs hh
   intro p q s s' hs hs' he hn
   by_cases hp:∃i,i<H'.h.length/\trP ps n i=p<;>by_cases hq:∃i,i<H'.h.length/\trP ps n i=q
   · obtain ⟨i,hi,rfl⟩:=hp
     obtain ⟨j,hj,rfl⟩:=hq
     have ha:H'.at i=some (some s):=by unfold Hp.at at hs ⊢;rw [(hβ i hi).2.2,aR8] at hs;exact hs
     have hb:H'.at j=some (some s'):=by unfold Hp.at at hs' ⊢;rw [(hβ j hj).2.2,aR8] at hs';exact hs'
     rw [(hβ i hi).1] at he hn
     rw [(hβ j hj).1] at he
     rw [hok.inj i j _ _ ha hb he hn]
   · exact (key q p s' s hq hp hs' hs he.symm (by rw [<- he];exact hn)).elim
   · exact (key p q s s' hp hq hs hs' he hn).elim
   · rw [at_no p hp] at hs
     rw [at_no q hq] at hs'
     rw [(hno p hp).1] at he hn
     rw [(hno q hq).1] at he
     exact h.ok.inj p q _ _ hs hs' he λhh=>hn (h1 _ hh)
 · intro p x k ho
   by_cases hh:∃i,i<H'.h.length/\trP ps n i=p
   · obtain ⟨i,hi,rfl⟩:=hh
     obtain ⟨k1,k2,k3⟩:=hβ i hi
     rw [k3] at ho
     rw [k1]
     cases hg:aAd H'.h i<;>rw [hg] at ho<;>simp [bUd] at ho
     obtain ⟨rfl,rfl⟩:=ho
     exact hok.it i _ _ hg
   · obtain ⟨k1,k2,k3⟩:=hno p hh
     rw [k3] at ho
     rw [k1]
     obtain ⟨q1,q2⟩:=h.ok.it p _ _ ho
     exact ⟨(hblk _ (aCc h.ok (aHe ho)) (other p _ hh (aHe ho))).trans q1,by rw [notS' p _ hh (aHe ho)];exact q2⟩
 · intro p s hs hn
   by_cases hp:∃i,i<H'.h.length/\trP ps n i=p
   · obtain ⟨i,hi,rfl⟩:=hp
     have ha:H'.at i=some (some s):=by unfold Hp.at at hs ⊢;rw [(hβ i hi).2.2,aR8] at hs;exact hs
     rw [(hβ i hi).1] at hn ⊢
     rcases hok.mine i s ha hn with hh|hh
     · exact .inl (Nat.le_trans h.kept.size hh)
     · exact mineOf _ hh
   · rw [at_no p hp] at hs
     rw [(hno p hp).1] at hn ⊢
     exact h.ok.mine p s hs λhh=>hn (h1 _ hh)
 · intro k hkl hm
   rw [hblk k (Nat.lt_of_lt_of_le hkl h.kept.size) λhb=>by
    rcases mineOf k hb with hh|hh
    · exact absurd hkl (Nat.not_lt.2 hh)
    · exact hm hh]
   exact h.kept.block k hkl hm
 · intro b hb
   rcases h2 b hb with hh|hh|hh
   · exact h.bs b hh
   · exact .inr (.inl (Nat.le_trans h.kept.size hh))
   · rcases mineOf b hh with hh|hh
     · exact .inr (.inl hh)
     · exact .inr (.inr hh)
end Go.V
namespace Go.V
open Go.RowKit
variable {P:Program}{gl:Gl}{T:Tab}{B:Base}{S:Nat->Prop}{H:Hp}{a:Act}{w:World}{E:Operand->AV}{n:Nat}{K:AV->List (Nat×Ob)->Prop}{dr:Bool}
mutual
theorem aXc {S:Nat->Prop}{b:Nat}{w:World}:∀(x:AV) (v:Value) (F:List (Nat×Nat)),aDw S b w x v F->∀q∈F,b<=q.1
 | .fr e sz es,v,F,h=>by
   simp only [aDw] at h
   obtain ⟨b',cap,rfl,_,h3,_⟩:=h
   intro q hq;simp at hq;subst hq;exact h3
 | .agg cs,v,F,h=>by
   simp only [aDw] at h
   obtain ⟨vs,e,h1,h2⟩:=h
   exact aXb cs vs F h2
 | .tup cs,v,F,h=>by
   simp only [aDw] at h
   obtain ⟨vs,e,h2⟩:=h
   exact aXb cs vs F h2
 | .j,v,F,h| .u,v,F,h| .int _ _,v,F,h| .bool _,v,F,h| .str _,v,F,h| .nils,v,F,h| .nili,v,F,h
 | .own _ _ _,v,F,h| .ptr _ _ _,v,F,h| .bptr _ _,v,F,h| .map _,v,F,h| .rp _,v,F,h| .ro _ _,v,F,h| .fn _ _,v,F,h| .iface _ _,v,F,h=>by
   simp only [aDw] at h
   rw [h.1];simp
theorem aXb {S:Nat->Prop}{b:Nat}{w:World}:∀(xs:List AV) (vs:List Value) (F:List (Nat×Nat)),aC5 S b w xs vs F->∀q∈F,b<=q.1
 |[],vs,F,h=>by simp only [aC5] at h;rw [h.2];simp
 |x::xs,vs,F,h=>by
  simp only [aC5] at h
  obtain ⟨v,r,F1,F2,rfl,rfl,h1,h2⟩:=h
  intro q hq
  rcases List.mem_append.1 hq with hq|hq
  · exact aXc x v F1 h1 q hq
  · exact aXb xs r F2 h2 q hq
end
mutual
theorem aHw {S S':Nat->Prop}{b:Nat}{w w':World}(L:Later S H0 w S' H0 w'):∀(x:AV) (v:Value) (F:List (Nat×Nat)),aDw S b w x v F->(∀ q∈F,w'.heap[q.1]? =w.heap[q.1]?)->aDw S' b w' x v F
 | .fr e sz es,v,F,h,hF=>by
   simp only [aDw] at h ⊢
   obtain ⟨b',cap,rfl,h2,h3,h4⟩:=h
   exact ⟨b',cap,rfl,h2,h3,h4.later L (hF (b',cap) (by simp))⟩
 | .agg cs,v,F,h,hF=>by
   simp only [aDw] at h ⊢
   obtain ⟨vs,e,h1,h2⟩:=h
   exact ⟨vs,e,h1,aGf L cs vs F h2 hF⟩
 | .tup cs,v,F,h,hF=>by
   simp only [aDw] at h ⊢
   obtain ⟨vs,e,h2⟩:=h
   exact ⟨vs,e,aGf L cs vs F h2 hF⟩
 | .j,v,F,h,_| .u,v,F,h,_| .int _ _,v,F,h,_| .bool _,v,F,h,_| .str _,v,F,h,_| .nils,v,F,h,_| .nili,v,F,h,_
 | .own _ _ _,v,F,h,_| .ptr _ _ _,v,F,h,_| .bptr _ _,v,F,h,_| .map _,v,F,h,_| .rp _,v,F,h,_| .ro _ _,v,F,h,_| .fn _ _,v,F,h,_| .iface _ _,v,F,h,_=>by
   simp only [aDw] at h ⊢
   exact ⟨h.1,aAi.later L _ _ h.2⟩
theorem aGf {S S':Nat->Prop}{b:Nat}{w w':World}(L:Later S H0 w S' H0 w'):∀(xs:List AV) (vs:List Value) (F:List (Nat×Nat)),aC5 S b w xs vs F->(∀ q∈F,w'.heap[q.1]? =w.heap[q.1]?)->aC5 S' b w' xs vs F
 |[],vs,F,h,_=>by simpa [aC5] using h
 |x::xs,vs,F,h,hF=>by
  simp only [aC5] at h ⊢
  obtain ⟨v,r,F1,F2,rfl,rfl,h1,h2⟩:=h
  exact ⟨v,r,F1,F2,rfl,rfl,aHw L x v F1 h1 (λq hq=>hF q (List.mem_append_left _ hq)),aGf L xs r F2 h2 (λq hq=>hF q (List.mem_append_right _ hq))⟩
end
theorem bJb {ps:List Nat}{G:Nat->Ob}{x:AV}{K:List (Nat×Ob)->Prop}(h:bUf ps G x K):(ps=[]/\K [])\/(aIr x/\K [])\/(aLn G ps=false/\K (bIj G ps)):=by
 unfold bUf at h
 split at h
 · exact .inl ⟨rfl,h⟩
 · split at h
   · exact .inr (.inl ⟨aXf x ‹_›,h⟩)
   · simp only [aBy,Bool.not_eq_true'] at h
     exact .inr (.inr h)
   · obtain ⟨b,h⟩:=h
     cases b with
     |true=>simp only [aBy,Bool.not_eq_true'] at h;exact .inr (.inr h)
     |false=>exact .inr (.inl h)
theorem aYz {G:Nat->Ob}:∀{ps:List Nat},aLn G ps=false->∀p∈ps,∀t cs,G p≠ .box t cs
 |[],_,p,hp,_,_=>by simp at hp
 |q::ps,h,p,hp,t,cs=>by
  simp only [aLn] at h
  split at h
  · cases h
  · rename_i hq
    simp only [List.mem_cons] at hp
    rcases hp with rfl|hp
    · exact hq t cs
    · exact aYz h p hp t cs
theorem bR2 (h:Wd gl B S H w){w':World}(hb:Below w.heap.size w w'){aS:List AV}{x:AV}{v:Value}(hf:bEm n H K) (hk:bPe aS (aAd H.h) n K x)
 (hres:bGt (λb=>S b\/(∃ p∈aFd (aAd H.h) aS,(∃ fz e sz es,aAd H.h p= .row fz e sz es)/\b=H.β p)\/∃p∈aFd (aAd H.h) aS,(∃ t cs,aAd H.h p= .box t cs)/\b=H.β p) w.heap.size w' x v):
 ∃y d S'' H'',K y d/\Eff gl B S H w S'' H'' w' d/\aAi S'' H'' w' y v:=by
 obtain ⟨S1,F,hF,hnd,hFS,hS1⟩:=hres
 have hge:=aXc x v F hF
 have E1:=aLz h hb.os hb.tape hb.output hb.size hb.block
 unfold bPe at hk
 have posn:∀d0,K (aEs n x).1 (d0++(aEs n x).2)->∀q ob,(q,ob)∈(aEs n x).2->aAd H.h q= .dead:=λd0 hK q ob hq=>hf _ _ hK q ob (List.mem_append_right _ hq) (aMy x n q ob hq).1
 have live:∀q∈F,∀p s,H.at p=some (some s)->H.β p≠q.1:=λq hq p s hp e=>by
  have:=aCc h.ok hp
  have:=hge q hq
  omega
 rcases bJb hk with ⟨hps,hK⟩|⟨hfl,hK⟩|⟨hnb,hK⟩
 · rw [hps] at hS1
   have E2:=bFa E1.wd (λb=>S1 b/\w.heap.size<=b) (λb hb=>⟨(hS1 b hb.1).1,λp s hp e=>by
    have:=aCc h.ok hp
    omega⟩) (λb hb=>Nat.le_trans h.kept.size hb.2)
   have L1:Later S1 H0 w' (λb=>S b\/S1 b/\w.heap.size<=b) H0 w':=⟨λb hb _=>⟨by
    rcases (hS1 b hb).2 with (h1|⟨p,hp,_⟩|⟨p,hp,_⟩)|h2
    · exact .inl h1
    · simp at hp
    · simp at hp
    · exact .inr ⟨hb,h2⟩,rfl⟩,Nat.le_refl _,λp hp=>absurd (aY0 p) hp⟩
   obtain ⟨H',k1,k2⟩:=aLm x n H v F E2.wd (aHw L1 x v F hF λ_ _=>rfl) ⟨hnd,λq hq=>⟨λhh=>by
    rcases hh with hh|hh
    · have:=h.ok.sb _ hh;have:=hge q hq;omega
    · exact hFS q hq hh.1,live q hq,Nat.le_trans h.kept.size (hge q hq)⟩⟩ (posn _ hK)
   exact ⟨_,_,_,H',hK,by have:=E1.trans (E2.trans k1.eff);simpa using this,k2⟩
 · obtain ⟨H',k1,k2⟩:=aLm x n H v F E1.wd (aZr x v F hfl hF) ⟨hnd,λq hq=>⟨λhh=>by
    have:=h.ok.sb _ hh;have:=hge q hq;omega,live q hq,Nat.le_trans h.kept.size (hge q hq)⟩⟩ (posn _ hK)
   exact ⟨_,_,_,H',hK,by have:=E1.trans k1.eff;simpa using this,k2⟩
 · have E2:=bFa E1.wd (λb=>S1 b/\w.heap.size<=b) (λb hb=>⟨(hS1 b hb.1).1,λp s hp e=>by
    have:=aCc h.ok hp
    omega⟩) (λb hb=>Nat.le_trans h.kept.size hb.2)
   obtain ⟨S3,H3,E3,f1,f2,f3,f4,f5,f6,f7⟩:=aLy (aAd H.h) (aFd (aAd H.h) aS) E2.wd (aGs.refl _)
   have L1:Later S1 H0 w' S3 H0 w':=⟨λb hb _=>⟨by
    rcases (hS1 b hb).2 with (h1|⟨p,hp,⟨fz,e,sz,es,ho⟩,rfl⟩|⟨p,hp,⟨t,cs,ho⟩,_⟩)|h2
    · exact (E3.later.blk b (.inl h1) (hS1 b hb).1).1
    · rw [<- f2];exact f1 p hp _ _ _ _ ho
    · exact absurd ho (aYz hnb p hp t cs)
    · exact (E3.later.blk b (.inr ⟨hb,h2⟩) (hS1 b hb).1).1,rfl⟩,Nat.le_refl _,λp hp=>absurd (aY0 p) hp⟩
   have atq:∀p s,H3.at p=some (some s)->∃s',H.at p=some (some s'):=λp s hp=>by
    by_cases hrow:∃fz e sz es,aAd H.h p= .row fz e sz es
    · obtain ⟨fz,e,sz,es,ho⟩:=hrow
      exact ⟨_,aCk ho⟩
    · refine ⟨s,?_⟩
      unfold Hp.at at hp ⊢
      rw [f6 p hrow] at hp;exact hp
   obtain ⟨H',k1,k2⟩:=aLm x n H3 v F E3.wd (aHw L1 x v F hF λ_ _=>rfl) ⟨hnd,λq hq=>⟨λhh=>by
    have hq2:=hge q hq
    rcases f7 _ hh with (hh|hh)|⟨p,hp,fz,e,sz,es,ho,e'⟩
    · have:=h.ok.sb _ hh;omega
    · exact hFS q hq hh.1
    · have:=aCc h.ok (aCk ho);omega,λp s hp e=>by
      obtain ⟨s',hp'⟩:=atq p s hp
      rw [f2] at e
      exact live q hq p s' hp' e,Nat.le_trans h.kept.size (hge q hq)⟩⟩ (λq ob hq=>by
    have hd:=posn _ hK q ob hq
    rw [f6 q (by rw [hd];simp)];exact hd)
   exact ⟨_,_,_,H',hK,by have:=E1.trans (E2.trans (E3.trans k1.eff));simpa using this,k2⟩
theorem bO9 {o:Oper}{f:FuncId}{vs:Array Value}{R:Value->World->Prop}(hg:bX7 P f vs w R) (he:(execOp a.eval o).run P w=(callFunc f vs).run P w){next:Act->World->Prop}{Q:Exit->Act->World->Prop}
 (hn:∀v w',R v w'->next (a.put o.dst v) w'):o.wp P a w next Q:=by
 unfold Oper.wp
 rw [he]
 rcases hg with ⟨h1,h2⟩|⟨v,w',h1,h2⟩|⟨row,aS,w1,h1,h2⟩
 · rw [h1,Oper.upon_enter]
   refine h2.mono λe w' hh=>?_
   obtain ⟨v,rfl,hr⟩:=hh
   exact hn v w' hr
 · rw [h1];exact hn v w' h2
 · rw [h1,Oper.upon_row]
   exact h2.mono λv w' hr=>hn v w' hr
theorem bR1 (hr:Opn gl B S H w E a){o:Oper}{f:FuncId}{aS:List AV}{aKx:List Value}(has:aAt S H w aS aKx)
 (he:(execOp a.eval o).run P w=(callFunc f aKx.toArray).run P w) (hf:bEm n H K) (h:aUt P gl dr f aS (aAd H.h) n K):Ok1 P gl B S H a w o K:=by
 obtain ⟨ps,hc,h⟩:=h
 have h:∃R:AV->List Ob->Prop,aFp P gl f (bBd ps aS) (aZ9 (aAd H.h) ps) R/\∀x h',R x h'->K (tr ps n x) (trD ps n 0 h'):=by
  cases dr with
  |false=>exact h
  |true=>obtain ⟨r,h',h1,h2⟩:=h;exact ⟨_,h1,λx hx hh=>by rw [hh.1,hh.2];exact h2⟩
 obtain ⟨R,hV,hK⟩:=h
 simp only [Bool.and_eq_true,bFf,List.all_eq_true] at hc
 have hlt:∀p∈ps,p<n:=λp hp=>by simpa [Nat.blt_eq] using (hc.2 p hp).1
 intro next Q hn
 have hobs:(H.keep ps).h=aZ9 (aAd H.h) ps:=bAa H.h ps ps
 have hok:=bN7 hr.wd.ok hc.1
 refine bO9 (hV S (H.keep ps) w aKx hobs (λi hi=>?_) ⟨hok.sb,hok.row,hok.box,hok.kv,hok.inj,hok.it,λp s hp hns=>.inr ⟨p,s,hp,rfl,hns⟩⟩ hr.wd.gl (aMi ps _ _ has)) he λv w' hh=>?_
 · have hl:i<ps.length:=by simpa [aZ9] using hi
   have hq:ps[i]? =some ps[i]:=List.getElem?_eq_getElem hl
   rw [(aDl (H:=H) hq).1]
   have:=(hc.2 _ (List.getElem_mem hl)).2.2
   unfold Hp.at
   unfold aLc at this
   intro e
   cases hg:aAd H.h ps[i]<;>rw [hg] at this e<;>simp [Ob.sz] at this e
 · obtain ⟨x,S',H',hx,k1,k2,k3,k4,k5,k6⟩:=hh
   have hKx:=hK x _ hx
   obtain ⟨H'',hE,hT⟩:=bR6 hr.wd hc.1 hlt k1 k2 k3 k4 k5 λq ob hq hge=>hf _ _ hKx q ob hq hge
   exact hn _ _ v S' H'' w' hKx hE (bGm hT x v k6)
theorem bMn (hr:Opn gl B S H w E a){o:Oper}{f:FuncId}{nas aS:List AV}{aKx:List Value}(has:aAt S H w aS aKx) (hnas:∀S',aUv S H S' (aFd (aAd H.h) aS)->aAt S' H0 w nas aKx)
 (he:(execOp a.eval o).run P w=(callFunc f aKx.toArray).run P w) (hf:bEm n H K) (h:bAy P gl dr f nas aS (aAd H.h) n K):Ok1 P gl B S H a w o K:=by
 rcases h with h|h
 case inr=>exact bR1 hr has he hf h
 have h:∃R:AV->Prop,aAc P gl f nas R/\∀x,R x->bPe aS (aAd H.h) n K x:=by
  unfold bO1 at h
  cases dr with
  |false=>exact h
  |true=>obtain ⟨r,h1,h2⟩:=h;exact ⟨_,h1,λx hx=>by rw [hx];exact h2⟩
 obtain ⟨R,hV,hK⟩:=h
 intro next Q hn
 have hlent:aUv S H (λb=>S b\/(∃ p∈aFd (aAd H.h) aS,(∃ fz e sz es,aAd H.h p= .row fz e sz es)/\b=H.β p)\/∃p∈aFd (aAd H.h) aS,(∃ t cs,aAd H.h p= .box t cs)/\b=H.β p) (aFd (aAd H.h) aS):=
  ⟨⟨λb hb=>.inl hb,λp hp fz e sz es ho=>.inr (.inl ⟨p,hp,⟨_,_,_,_,ho⟩,rfl⟩)⟩,λp hp t cs ho=>.inr (.inr ⟨p,hp,⟨_,_,ho⟩,rfl⟩)⟩
 refine bO9 (hV _ w aKx ?_ (hr.wd.gl.later hlent.1.later) (hnas _ hlent)) he λv w' hh=>?_
 · rintro b (hb|⟨p,hp,⟨fz,e,sz,es,ho⟩,rfl⟩|⟨p,hp,⟨t,cs,ho⟩,rfl⟩)
   · exact hr.wd.ok.sb b hb
   · exact aCc hr.wd.ok (aCk ho)
   · exact aCc hr.wd.ok (aIn ho)
 · obtain ⟨x,hx,hres,hbel⟩:=hh
   obtain ⟨y,d,S'',H'',hKy,hE,hrep⟩:=bR2 hr.wd hbel hf (hK x hx) hres
   exact hn y d v S'' H'' w' hKy hE hrep
theorem aMa (hr:Opn gl B S H w E a){S':Nat->Prop}:∀(xs:List Operand) (ts:List Nat),aUv S H S' (aFd (aAd H.h) (xs.map E))->aAt S' H0 w (aIs T E (aAd H.h) xs ts) (xs.map a.eval)
 |[],_,_=>by simp [aIs,aAt]
 |x::xs,[],hl=>by
  simp only [aIs,List.map_cons,aAt]
  exact ⟨_,_,rfl,bFz hr.wd.ok _ _ (hl.mono λq hq=>by simp [aFd,hq]) (hr.ev x),aMa hr xs [] (hl.mono λq hq=>by simp [aFd,hq])⟩
 |x::xs,t::ts,hl=>by
  simp only [aIs,List.map_cons,aAt]
  exact ⟨_,_,rfl,bFz hr.wd.ok _ _ (hl.mono λq hq=>by simp [aFd,hq]) (hr.ev x),aMa hr xs ts (hl.mono λq hq=>by simp [aFd,hq])⟩
theorem aVk (hr:Opn gl B S H w E a):∀(xs:List Operand),aAt S H w (xs.map E) (xs.map a.eval)
 |[]=>by simp [aAt]
 |x::xs=>by
  simp only [List.map_cons,aAt]
  exact ⟨_,_,rfl,hr.ev x,aVk hr xs⟩
theorem aNw (G:Nat->Ob):∀(xs ys:List AV),aFd G (xs++ys)=aFd G xs++aFd G ys
 |[],ys=>rfl
 |x::xs,ys=>by simp [aFd,aNw G xs ys]
theorem aUh {G:Nat->Ob}{q:Nat}:∀{xs:List AV},q∈aFc G xs->q∈aFd G xs
 |[],h=>by simp [aFc] at h
 |x::xs,h=>by
  simp only [aFc,aFd,List.mem_append] at h ⊢
  rcases h with h|h
  · left
    cases x<;>first|exact h|(simp [aRl,bAb] at h;done)
  · exact .inr (aUh h)
theorem bSr (hr:Opn gl B S H w E a){o:Oper}{f:FuncId}{args:Array Operand}{ats:Array TypeId}(ho:o.op= .call { callee:=.value (.func f),args,argTypes:=ats}) (hf:bEm n H K)
 (h:vop P gl T dr o.op E (aAd H.h) n K):Ok1 P gl B S H a w o K:=by
 rw [ho] at h
 simp only [vop] at h
 refine bMn hr (aKx:=args.toList.map a.eval) (aVk hr _) (λS' hl=>aMa hr _ _ hl) ?_ hf h
 have e:args.toList.map a.eval=(args.map a.eval).toList:=by rw [Array.toList_map]
 rw [e,Array.toArray_toList]
 simp [execOp,ho,resolve,Act.eval,Deferred.ofValue,invoke]
theorem bSs (hr:Opn gl B S H w E a){o:Oper}{t:Tmp}{args:Array Operand}{ats:Array TypeId}(ho:o.op= .call { callee:=.value (.tmp t),args,argTypes:=ats}) (hf:bEm n H K)
 (h:vop P gl T dr o.op E (aAd H.h) n K):Ok1 P gl B S H a w o K:=by
 rw [ho] at h
 simp only [vop] at h
 have ht:=hr.ev (.tmp t)
 split at h
 · rename_i f cap e
   rw [e] at ht
   simp only [aAi] at ht
   obtain ⟨vs,hv,hl⟩:=ht
   refine bMn hr (aKx:=args.toList.map a.eval++vs) (aAt.append (aVk hr _) hl) (λS' hl'=>?_) ?_ hf h
   · rw [aNw] at hl'
     exact aAt.append (aMa hr _ _ (hl'.mono λq hq=>List.mem_append_left _ hq)) (aJf hr.wd.ok [] cap (hl'.mono λq hq=>List.mem_append_right _ (aUh hq)) hl)
   · have e:args.toList.map a.eval++vs=(args.map a.eval++vs.toArray).toList:=by simp
     rw [e,Array.toArray_toList]
     simp [execOp,ho,resolve,hv,Deferred.ofValue,invoke]
 · exact h.elim
end Go.V
namespace Go.V
open Go.RowKit
variable {P:Program}{gl:Gl}{T:Tab}{B:Base}{S:Nat->Prop}{H:Hp}{a:Act}{w:World}{E:Operand->AV}{n:Nat}{K:AV->List (Nat×Ob)->Prop}{dr:Bool}
theorem aH9:∀{vss:List (List Value)},(∀ vs∈vss,vs.length=1)->∀k,(vss.take k).flatten=vss.flatten.take k/\(vss.drop k).flatten=vss.flatten.drop k
 |[],_,k=>by simp
 |x::vss,h,0=>by simp
 |x::vss,h,k+1=>by
  obtain ⟨h1,h2⟩:=aH9 (λvs hv=>h vs (List.mem_cons_of_mem _ hv)) k
  have hx:=h x List.mem_cons_self
  match x,hx with
  |[v],_=>simp only [List.take_succ_cons,List.drop_succ_cons,List.flatten_cons,List.cons_append,List.nil_append,h1,h2];exact ⟨trivial,trivial⟩
theorem bXf (hT:TOK P T) (hr:Opn gl B S H w E a){o:Oper}{args:Array Operand}{ats:Array TypeId}(ho:o.op= .call { callee:=.builtin .copy,args,argTypes:=ats})
 (h:vop P gl T dr o.op E (aAd H.h) n K):Ok1 P gl B S H a w o K:=by
 rw [ho] at h
 simp only [vop] at h
 split at h
 · rename_i x y t t' ea et
   have ea:args= #[x,y]:=by rw [<- Array.toArray_toList (xs:=args),ea]
   have et:ats= #[t,t']:=by rw [<- Array.toArray_toList (xs:=ats),et]
   subst ea et
   have hx:=hr.ev x
   have hy:=hr.ev y
   unfold bA0 at h
   obtain ⟨e,hu,hke,h⟩:=bI6 hT h
   have hinfo:=(hT.get hke).info
   cases hi:P.info? e with
   |none=>rw [hi] at hinfo;cases hinfo
   |some i=>
   rw [hi] at hinfo
   simp only [Option.map_some,Option.some.injEq,Prod.mk.injEq] at hinfo
   obtain ⟨i1,i2,i3⟩:=hinfo
   split at h
   · rename_i sz new hnorm
     simp only [aBy,Bool.and_eq_true] at h
     obtain ⟨⟨⟨hsz,ht1⟩,hpos⟩,h⟩:=h
     have hsz:=Nat.eq_of_beq_eq_true hsz
     have ht1:=Nat.eq_of_beq_eq_true ht1
     have hpos:0<new.length:=by simpa using hpos
     subst hsz
     obtain ⟨A,c,hyv,hym,hread⟩:=aNn hr.wd.ok hy hnorm
     rcases hread with hnil|⟨ad,vss2,rfl,k1,k2,k3⟩
     · subst hnil;exact absurd hpos (by simp)
     split at h
     · rename_i p off len e1
       split at h
       · rename_i e' sz' es hg
         obtain ⟨hs',m,hm,hfit,r,rfl,hK⟩:=h
         have hs':=Nat.eq_of_beq_eq_true hs'
         subst hs'
         have hat:=aCk hg
         rw [e1] at hx;simp only [aAi] at hx
         obtain ⟨hxv,hle⟩:=hx.2.2 _ hat
         simp only [Nat.mul_one] at hxv
         obtain ⟨⟨cur,vss,r1,r2,r3,r4,r5,r6,r7,r8⟩,r9⟩:=hr.wd.ok.row p _ _ _ _ hg
         have hl1:=aAr.length r6
         have hl2:=aAr.length k1
         have one1:∀vs∈vss,vs.length=1:=λvs hv=>(r7 vs hv).1
         have one2:∀vs∈vss2,vs.length=1:=λvs hv=>(k2 vs hv).1
         have hf1:vss.flatten.length=es.length:=by rw [aB0 one1,hl1];omega
         have hf2:vss2.flatten.length=new.length:=by rw [aB0 one2,hl2];omega
         obtain ⟨cs,hcs⟩:∃cs,cs=(vss2.take m).flatten:=⟨_,rfl⟩
         have hcs2:cs=vss2.flatten.take m:=by rw [hcs];exact (aH9 one2 m).1
         have hcl:cs.length=m:=by rw [hcs2,List.length_take,hf2];omega
         have hcell:∀j u,cs[j]? =some u->w.cell? (ad.add j)=some u:=λj u hj=>by
          rw [hcs2,List.getElem?_take] at hj
          split at hj
          · obtain ⟨vs,g1,g2⟩:=aQj (by omega:0<1) one2 hj
            have:=k3 _ vs g1 _ u g2
            rwa [Nat.mul_comm,Nat.div_add_mod] at this
          · cases hj
         have hone:∀u∈cs,u.oneCell'=true:=λu hu=>by
          rw [hcs] at hu
          obtain ⟨vs,g1,g2⟩:=List.mem_flatten.1 hu
          exact (k2 vs (List.mem_of_mem_take g1)).2 u g2
         have hcur:es.length<=cur.size:=by simp only [Nat.mul_one] at r2;omega
         have hrun:=run_copy_row (P:=P) w t t' o.type e (H.β p) off len (H.κ p - off) ad new.length c cur e' cs hu (by simp only [hi,Option.map_some,i2,ht1]) r1 (by rw [hcl,hm]) hcell (by omega) hone
         have hflat:cur.toList.take es.length=vss.flatten:=by simpa using r8
         have E2:=aQe hr.wd (p:=p) (ob:=.row false e' 1 (es.take off++new.take m++es.drop (off+m))) (w':=w.setRow (H.β p) (cur.toList.take off++cs++cur.toList.drop (off+cs.length)).toArray) (aCk hg) (by simp [Ob.sz];omega) rfl rfl rfl (aLe _ _ _) (λk hk=>setRow_other _ _ _ _ hk)
          (by intro hs;exact absurd (r9.1 hs) (by simp))
          ⟨rfl,_,vss.take off++vss2.take m++vss.drop (off+m),setRow_heap _ _ _ _ _ _ r1,by simp [hcl] at r2 ⊢ <;>omega,r3,by simp;omega,r5,aAr.append (aAr.append (aAr.take _ r6) (aAr.take _ k1)) (aAr.drop _ r6),by
            intro ws hws
            simp only [List.mem_append] at hws
            rcases hws with (hws|hws)|hws
            · exact r7 ws (List.mem_of_mem_take hws)
            · exact k2 ws (List.mem_of_mem_take hws)
            · exact r7 ws (List.mem_of_mem_drop hws),by
            rw [List.flatten_append,List.flatten_append,(aH9 one1 off).1,(aH9 one1 (off+m)).2,<-hcs,<-hflat,hcl]
            have hlen:(es.take off++new.take m++es.drop (off+m)).length*1=es.length:=by simp;omega
            rw [hlen]
            simp only [List.toList_toArray]
            rw [List.take_take,Nat.min_eq_left (by omega),List.take_append,List.take_of_length_le (by simp;omega),List.drop_take]
            congr 1
            congr 1
            simp;omega⟩
         refine aJg (u:=goInt cs.length) ?_ hK E2 (by rw [hcl];simp [aAi,goInt])
         rw [<- hxv,<-hyv] at hrun
         simp [execOp,ho,resolve,invoke,builtin,hrun]
       · exact h.elim
     · exact h.elim
   · exact h.elim
 · exact h.elim
end Go.V
namespace Go.V
open Go.RowKit
variable {P:Program}{gl:Gl}{T:Tab}{B:Base}{S:Nat->Prop}{H:Hp}{a:Act}{w:World}{E:Operand->AV}{n:Nat}{K:AV->List (Nat×Ob)->Prop}{dr:Bool}
theorem cAv (hT:TOK P T) (hr:Opn gl B S H w E a){o:Oper}(hf:bEm n H K) (h:vop P gl T dr o.op E (aAd H.h) n K):Ok1 P gl B S H a w o K:=by
 cases ho:o.op with
 |move x=>exact bN9 hr (.inl ho) (by rw [ho] at h;exact h)
 |assign x=>exact bN9 hr (.inr ho) (by rw [ho] at h;exact h)
 |pick c x y=>exact bXj hr ho h
 |alloc t=>exact bSp hT hr ho hf h
 |box t x=>exact cAp hr ho hf h
 |build t ps=>exact bSq hT hr ho h
 |buildSlice t len ps=>exact aW0 hT hr ho hf h
 |insert t m k v=>exact aNy hT hr (.inr ho) h
 |mapUpdate t m k v=>exact aNy hT hr (.inl ho) h
 |load t x=>exact bXh hT hr ho h
 |store t x y=>exact bSx hT hr ho h
 |nilCheck x=>exact cAu hr ho h
 |binOp op t x y ty=>exact cAo hT hr ho h
 |unOp op t x=>exact cCg hr ho h
 |convert s d x=>exact bXe hT hr ho h
 |makeInterface t x=>exact cAt hT hr ho h
 |makeFunc f fi cap=>
  cases f with
  |func f=>
   rw [ho] at h
   simp only [vop] at h
   split at h
   · rename_i e
     exact cCf hr (by rw [<- Array.toArray_toList (xs:=fi),e]) ho h
   · exact h.elim
  |_=>rw [ho] at h;exact h.elim
 |makeMap t r=>
  cases r with
  |none=>exact bIw hr ho hf h
  |some r=>rw [ho] at h;exact h.elim
 |makeSlice t l c=>exact bAi hT hr ho hf h
 |slice t x lo hi mx=>
  cases mx with
  |none=>exact bSw hT hr ho h
  |some m=>rw [ho] at h;exact h.elim
 |fieldAddr t x f=>exact bAg hT hr ho h
 |field t x f=>exact bSt hT hr ho h
 |indexAddr t x i=>exact bAh hT hr ho h
 |index t x i=>exact bSu hT hr ho h
 |lookup t x i ok=>exact bN8 hT hr ho h
 |extract x i=>exact bIv hr ho h
 |call c=>
  obtain ⟨callee,args,ats⟩:=c
  cases callee with
  |value f=>
   cases f with
   |func f=>exact bSr hr ho hf h
   |tmp t=>exact bSs hr ho hf h
   |_=>rw [ho] at h;exact h.elim
  |invoke r m=>rw [ho] at h;exact h.elim
  |builtin b=>
   cases b with
   |len=>exact cAq hT hr ho h
   |append=>exact bN6 hT hr ho hf h
   |copy=>exact bXf hT hr ho h
   |min=>exact cAs hr ho h
   |max=>exact cAr hr ho h
   |_=>rw [ho] at h;exact h.elim
 |range t x=>exact bSv hT hr ho hf h
 |next x b=>cases b with
  |true=>exact bXi hr ho h
  |false=>rw [ho] at h;exact h.elim
 |_=>rw [ho] at h;exact h.elim
end Go.V
namespace Go.V
open Go.RowKit
variable {P:Program}{gl:Gl}{T:Tab}{B:Base}{S:Nat->Prop}{H:Hp}{a:Act}{w:World}
def bYa (N:Nat) (o:Oper):Bool:=match o.dst with|some d=>Nat.blt d N|none=>true
theorem bMx {N:Nat}{o:Oper}(h:bYa N o=true):∀d,o.dst=some d->d<N:=λd hd=>by
 unfold bYa at h;rw [hd] at h;simpa using h
theorem aOv (a:Act) (d:Option Tmp) (v:Value):(a.put d v).tmps.size=a.tmps.size:=by cases d<;>simp [Act.put]
theorem aKh (a:Act) (d:Option Tmp) (v:Value):(a.put d v).defers=a.defers:=by cases d<;>rfl
theorem aSb {st:St}(hr:Rel gl B S H st a w){ops:Array Oper}{o:Oper}{b:Bool}(h:aN4 ops o st=some b):Region.wanted o (yielded ops a.tmps)=b:=by
 unfold aN4 at h
 unfold Region.wanted
 split at h
 · rename_i hg;rw [hg];simp at h ⊢;exact h
 · rename_i i c hg
   rw [hg]
   simp only
   split at h
   · cases h
   · rename_i d hd
     have ht:=hr.tm d
     unfold yielded
     rw [hd]
     simp only [Option.bind_some]
     split at h
     · rename_i c' e
       rw [e] at ht
       simp only [aAi] at ht
       have:a.tmps[d]? =some (.bool c'):=by
        rw [Array.getD_eq_getD_getElem?] at ht
        cases hx:a.tmps[d]? with
        |none=>rw [hx] at ht;simp [undef] at ht
        |some y=>rw [hx] at ht;simp at ht;rw [ht]
       rw [this]
       simp only [Option.some.injEq] at h
       subst h
       simp
     · rename_i e
       rw [e] at ht
       simp only [aAi] at ht
       simp only [Option.some.injEq] at h
       subst h
       cases hx:a.tmps[d]? with
       |none=>simp
       |some y=>
        rw [Array.getD_eq_getD_getElem?,hx] at ht
        simp only [Option.getD_some] at ht
        subst ht
        simp
     · cases h
def cBf (gl:Gl) (B:Base) (N:Nat) (ds:List Deferred) (Q:Ex->St->Prop):Exit->Act->World->Prop:=λe a w=>
 a.tmps.size=N/\a.defers=ds/\∃S H st,Rel gl B S H st a w/\match e with
  | .normal=>Q .nrm st
  | .exit id=>Q (.ex id) st
  | .ret=>Q .ret st
  |_=>False
theorem bSb {st:St}{K:AV->List (Nat×Ob)->Prop}(hh:H.h=st.h):bEm st.h.length H K:=λx d _ q ob _ hq=>by rw [hh];exact aOl _ _ hq
theorem bGb {st:St}(hr:Rel gl B S H st a w){d:Option Tmp}(hd:∀d',d=some d'->d'<a.tmps.size):Rel gl B S H (st.put d .u) (a.put d undef) w:=by
 have:=hr.upd (Eff.refl hr.wd) hd (x:=.u) (u:=undef) cA0
 simpa [St.upd,aDf] using this
theorem aRy (hT:TOK P T) (ops:Array Oper){N:Nat}{ds:List Deferred}{Q:Ex->St->Prop}:∀(l:List Oper) (st:St) (S:Nat->Prop) (H:Hp) (a:Act) (w:World),Rel gl B S H st a w->a.tmps.size=N->a.defers=ds->(∀ o∈l,bYa N o=true)->
 aXs P gl T ops (Q .nrm) l st->wpList P ops (cBf gl B N ds Q) l a w
 |[],st,S,H,a,w,hr,hN,hds,_,h=>⟨hN,hds,S,H,st,hr,h⟩
 |o::l,st,S,H,a,w,hr,hN,hds,hD,h=>by
  simp only [aXs,cC1,bM2,bZ7,bWo] at h
  simp only [wpList]
  have hd:∀d,o.dst=some d->d<a.tmps.size:=by rw [hN];exact bMx (hD o (by simp))
  rcases bA1 h with ⟨hg,h⟩|⟨hg,h⟩
  · rw [aSb hr hg,if_pos rfl]
    left
    rw [<- hr.hh] at h
    refine cAv hT hr.opn (by rw [hr.hh];exact bSb hr.hh) h _ _ λx d u S' H' w' hk he hx=>?_
    have hr':=hr.upd he hd hx
    exact aRy hT ops l _ S' H' _ w' hr' (by rw [aOv];exact hN) (by rw [aKh];exact hds) (λo ho=>hD o (List.mem_cons_of_mem _ ho)) hk
  · rw [aSb hr hg]
    simp only [Bool.false_eq_true,if_false]
    exact aRy hT ops l _ S H _ w (bGb hr hd) (by rw [aOv];exact hN) (by rw [aKh];exact hds) (λo ho=>hD o (List.mem_cons_of_mem _ ho)) h
end Go.V
namespace Go.V
open Go.RowKit
variable {P:Program}{gl:Gl}{T:Tab}{G G':Nat->Ob}
def aEj (G G':Nat->Ob) (ps:List Nat):Prop:=∀p∈aT0 G ps,G p=G' p
theorem aGv {p:Nat}:∀{ps:List Nat},p∈ps->p∈aT0 G ps
 |[],h=>by simp at h
 |q::ps,h=>by
  simp only [List.mem_cons] at h
  unfold aT0
  split
  · rcases h with rfl|h
    · simp
    · simp [aGv h]
  · rcases h with rfl|h
    · simp
    · simp [aGv h]
theorem aOi {p q:Nat}{t:Nat}{cs:List AV}:∀{ps:List Nat},p∈ps->G p= .box t cs->q∈aBi cs->q∈aT0 G ps
 |[],h,_,_=>by simp at h
 |r::ps,h,hg,hq=>by
  simp only [List.mem_cons] at h
  unfold aT0
  rcases h with rfl|h
  · rw [hg];simp [hq]
  · split<;>simp [aOi h hg hq]
theorem aEj.mono {ps ps':List Nat}(h:aEj G G' ps) (hs:∀p∈ps',p∈ps):aEj G G' ps':=by
 intro p hp
 refine h p ?_
 induction ps' with
 |nil=>simp [aT0] at hp
 |cons q r ih=>
  unfold aT0 at hp
  split at hp
  · rename_i t cs hg
    simp only [List.mem_cons,List.mem_append] at hp
    rcases hp with rfl|hp|hp
    · exact aGv (hs _ (by simp))
    · exact aOi (hs q (by simp)) hg hp
    · exact ih (λp hp=>hs p (by simp [hp])) hp
  · simp only [List.mem_cons] at hp
    rcases hp with rfl|hp
    · exact aGv (hs _ (by simp))
    · exact ih (λp hp=>hs p (by simp [hp])) hp
theorem aJ8:∀{ps:List Nat},aEj G G' ps->aT0 G' ps=aT0 G ps
 |[],_=>rfl
 |p::ps,h=>by
  have hp:=h p (aGv (by simp))
  have hr:=aJ8 (h.mono (ps':=ps) λq hq=>by simp [hq])
  unfold aT0
  rw [<- hp,hr]
theorem aEj.at {ps:List Nat}(h:aEj G G' ps){p:Nat}(hp:p∈ps):G p=G' p:=h p (aGv hp)
theorem aEj.in {ps:List Nat}(h:aEj G G' ps){p t:Nat}{cs:List AV}(hp:p∈ps) (hg:G p= .box t cs){q:Nat}(hq:q∈aBi cs):G q=G' q:=h q (aOi hp hg hq)
theorem bD3:∀(x:AV),(∀ p∈aEu x,G p=G' p)->aGp G x=aGp G' x
 | .own p off len,h=>by simp only [aGp,h p (by simp [aEu])]
 | .j,_| .u,_| .int _ _,_| .bool _,_| .str _,_| .nils,_| .nili,_| .fr _ _ _,_| .ptr _ _ _,_| .bptr _ _,_| .map _,_| .rp _,_| .ro _ _,_| .fn _ [],_| .fn _ (_::_),_| .iface _ _,_| .agg _,_| .tup _,_=>rfl
theorem aG3:∀(xs:List AV),(∀ p∈aBi xs,G p=G' p)->xs.map (aGp G)=xs.map (aGp G')
 |[],_=>rfl
 |x::xs,h=>by
  simp only [List.map_cons]
  rw [bD3 x (λp hp=>h p (by simp [aBi,hp])),aG3 xs (λp hp=>h p (by simp [aBi,hp]))]
theorem aE1 (n:Nat):∀(x:AV),aEj G G' (aEu x)->aDv G n x=aDv G' n x
 | .own p off len,h=>by simp only [aDv,h.at (p:=p) (by simp [aEu])]
 | .bptr p c,h=>by
   have hp:=h.at (p:=p) (by simp [aEu])
   simp only [aDv,<-hp]
   split
   · rename_i t cs hg
     rw [List.map_drop,List.map_drop,aG3 cs λq hq=>h.in (by simp [aEu]) hg hq]
   · rfl
 | .j,_| .u,_| .int _ _,_| .bool _,_| .str _,_| .nils,_| .nili,_| .fr _ _ _,_| .ptr _ _ _,_| .map _,_| .rp _,_| .ro _ _,_| .fn _ _,_| .iface _ _,_| .agg _,_| .tup _,_=>rfl
theorem aGd:∀(ns:List Nat) (xs:List AV),aEj G G' (aBi xs)->aMc G ns xs=aMc G' ns xs
 |_,[],_=>by simp [aMc]
 |[],x::xs,h=>by
  simp only [aMc]
  rw [aE1 0 x (h.mono λp hp=>by simp [aBi,hp]),aGd [] xs (h.mono λp hp=>by simp [aBi,hp])]
 |n::ns,x::xs,h=>by
  simp only [aMc]
  rw [aE1 n x (h.mono λp hp=>by simp [aBi,hp]),aGd ns xs (h.mono λp hp=>by simp [aBi,hp])]
theorem aUk (ti:TI) (x:AV) (h:aEj G G' (aEu x)):bPb G ti x=bPb G' ti x:=by
 cases x with
 |agg cs=>simp only [bPb];rw [aGd _ cs (h.mono λp hp=>by simpa [aEu] using hp)]
 |fn f cs=>simp only [bPb];rw [aGd _ cs (h.mono λp hp=>by simpa [aEu] using hp)]
 |tup cs=>rfl
 |_=>exact aE1 (ti.csz.headD 0) _ h
theorem aT9 {q:Nat}:∀{x:AV},q∈bAb x->q∈aEu x
 | .own p off len,h=>by simpa [bAb,aEu] using h
 | .j,h| .u,h| .int _ _,h| .bool _,h| .str _,h| .nils,h| .nili,h| .fr _ _ _,h| .ptr _ _ _,h| .bptr _ _,h| .map _,h| .rp _,h| .ro _ _,h| .fn _ _,h| .iface _ _,h| .agg _,h| .tup _,h=>by simp [bAb] at h
theorem aIc {q:Nat}:∀{xs:List AV},q∈aG1 xs->q∈aBi xs
 |[],h=>by simp [aG1] at h
 |x::xs,h=>by
  simp only [aG1,aBi,List.mem_append] at h ⊢
  exact h.imp aT9 aIc
theorem aJ6 {q:Nat}{x:AV}(h:q∈aBi (cells x)):q∈aEu x:=by
 cases x<;>simpa [cells,aBi,aEu] using h
theorem aRm:∀(x:AV),aEj G G' (aEu x)->aRl G x=aRl G' x
 | .bptr p c,h=>by
   have hp:=h.at (p:=p) (by simp [aEu])
   simp only [aRl,<-hp]
 | .own _ _ _,h| .j,_| .u,_| .int _ _,_| .bool _,_| .str _,_| .nils,_| .nili,_| .fr _ _ _,_| .ptr _ _ _,_| .map _,_| .rp _,_| .ro _ _,_| .fn _ _,_| .iface _ _,_| .agg _,_| .tup _,_=>rfl
theorem aJd:∀(xs:List AV),aEj G G' (aBi xs)->aFc G xs=aFc G' xs
 |[],_=>rfl
 |x::xs,h=>by
  simp only [aFc]
  rw [aRm x (h.mono λp hp=>by simp [aBi,hp]),aJd xs (h.mono λp hp=>by simp [aBi,hp])]
theorem bIq (x:AV) (h:aEj G G' (aEu x)):bW8 G x=bW8 G' x:=by
 cases x with
 |agg cs=>exact aJd cs (h.mono λp hp=>by simpa [aEu] using hp)
 |fn f cs=>exact aJd cs (h.mono λp hp=>by simpa [aEu] using hp)
 |_=>exact aRm _ h
theorem aRn:∀(xs:List AV),aEj G G' (aBi xs)->aFd G xs=aFd G' xs
 |[],_=>rfl
 |x::xs,h=>by
  simp only [aFd]
  rw [bIq x (h.mono λp hp=>by simp [aBi,hp]),aRn xs (h.mono λp hp=>by simp [aBi,hp])]
theorem aUa {q:Nat}:∀{x:AV}{ps:List Nat},(∀ p∈aEu x,p∈ps)->q∈aRl G x->q∈aT0 G ps
 | .bptr p c,ps,hs,h=>by
   simp only [aRl] at h
   split at h
   · rename_i t cs hg
     simp only [List.mem_cons] at h
     rcases h with rfl|h
     · exact aGv (hs _ (by simp [aEu]))
     · exact aOi (hs p (by simp [aEu])) hg (aIc h)
   · simp at h
 | .own p _ _,ps,hs,h=>aGv (hs q (aT9 h))
 | .j,_,_,h| .u,_,_,h| .int _ _,_,_,h| .bool _,_,_,h| .str _,_,_,h| .nils,_,_,h| .nili,_,_,h| .fr _ _ _,_,_,h| .ptr _ _ _,_,_,h| .map _,_,_,h| .rp _,_,_,h| .ro _ _,_,_,h| .fn _ _,_,_,h| .iface _ _,_,_,h| .agg _,_,_,h| .tup _,_,_,h=>by simp [aRl,bAb] at h
theorem aLb {q:Nat}:∀{xs:List AV}{ps:List Nat},(∀ p∈aBi xs,p∈ps)->q∈aFc G xs->q∈aT0 G ps
 |[],_,_,h=>by simp [aFc] at h
 |x::xs,ps,hs,h=>by
  simp only [aFc,List.mem_append] at h
  rcases h with h|h
  · exact aUa (λp hp=>hs p (by simp [aBi,hp])) h
  · exact aLb (λp hp=>hs p (by simp [aBi,hp])) h
theorem bNj {q:Nat}{x:AV}{ps:List Nat}(hs:∀p∈aEu x,p∈ps) (h:q∈bW8 G x):q∈aT0 G ps:=by
 cases x with
 |agg cs=>exact aLb (λp hp=>hs p (by simpa [aEu] using hp)) h
 |fn f cs=>exact aLb (λp hp=>hs p (by simpa [aEu] using hp)) h
 |_=>exact aUa hs h
theorem aUb {q:Nat}:∀{xs:List AV}{ps:List Nat},(∀ p∈aBi xs,p∈ps)->q∈aFd G xs->q∈aT0 G ps
 |[],_,_,h=>by simp [aFd] at h
 |x::xs,ps,hs,h=>by
  simp only [aFd,List.mem_append] at h
  rcases h with h|h
  · exact bNj (λp hp=>hs p (by simp [aBi,hp])) h
  · exact aUb (λp hp=>hs p (by simp [aBi,hp])) h
theorem aKa:∀(ps:List Nat),(∀ p∈ps,G p=G' p)->bIj G ps=bIj G' ps
 |[],_=>rfl
 |p::ps,h=>by simp only [bIj,h p (by simp),aKa ps λq hq=>h q (by simp [hq])]
theorem aNr:∀(ps:List Nat),(∀ p∈ps,G p=G' p)->aLn G ps=aLn G' ps
 |[],_=>rfl
 |p::ps,h=>by simp only [aLn,h p (by simp),aNr ps λq hq=>h q (by simp [hq])]
theorem bEk (ti:TI) (x:AV) (K:AV->Prop) (h:∀p∈aEu x,G p=G' p):aXr ti G x K=aXr ti G' x K:=by
 cases x<;>first|rfl|(simp only [aXr];rw [h _ (by simp [aEu])])
theorem bJe (ti:TI) (x:AV) (K:AV->Prop) (h:∀p∈aEu x,G p=G' p):bX1 ti G x K=bX1 ti G' x K:=by
 unfold bX1
 split<;>first|rfl|(cases x<;>first|rfl|(simp only [aLc];rw [h _ (by simp [aEu])]))
theorem bA2 (t:Nat) (x:AV) (i:Int) (K:AV->Prop) (h:∀p∈aEu x,G p=G' p):aSc T t G x i K=aSc T t G' x i K:=by
 unfold aSc
 cases x<;>first|rfl|(rename_i p _ _;have e:=h p (by simp [aEu]);simp only [e])|(rename_i p _;have e:=h p (by simp [aEu]);simp only [aLc,e])
theorem bA3 (t:Nat) (x:AV) (lo hi:Option AV) (K:AV->Prop) (h:∀p∈aEu x,G p=G' p):aSd T t G x lo hi K=aSd T t G' x lo hi K:=by
 unfold aSd
 cases x<;>first|rfl|(simp only [];rw [h _ (by simp [aEu])])
theorem bA4 (ti:TI) (x y:AV) (K:List (Nat×Ob)->Prop) (h:∀p∈aEu x,G p=G' p) (h':∀p∈aEu y,G p=G' p):aSe ti G x y K=aSe ti G' x y K:=by
 unfold aSe
 rw [aKa (G:=G) (G':=G') (aG1 (cells y)) λp hp=>h' p (aJ6 (aIc hp)),aG3 (G:=G) (G':=G') (cells y) λp hp=>h' p (aJ6 hp)]
 cases x<;>first|rfl|(simp only [];rw [h _ (by simp [aEu])])
theorem aXo (t n:Nat) (x y:AV) (K:AV->List (Nat×Ob)->Prop) (h:∀p∈aEu x,G p=G' p) (h':aEj G G' (aEu y)):aJu T t G n x y K=aJu T t G' n x y K:=by
 unfold aJu
 have:∀m,aDv G m y=aDv G' m y:=λm=>aE1 m y h'
 simp only [this]
 cases x with
 |own p off len=>
  cases off with
  |zero=>simp only [h p (by simp [aEu])]
  |succ k=>rfl
 |_=>rfl
theorem bEi (t:Nat) (x y:AV) (K:AV->List (Nat×Ob)->Prop) (h:∀p∈aEu x,G p=G' p) (h':aEj G G' (aEu y)):bA0 T t G x y K=bA0 T t G' x y K:=by
 unfold bA0
 have:∀m,aDv G m y=aDv G' m y:=λm=>aE1 m y h'
 simp only [this]
 cases x with
 |own p off len=>simp only [h p (by simp [aEu])]
 |_=>rfl
theorem bEh (s d:Nat) (x:AV) (K:AV->Prop) (h:aEj G G' (aEu x)):bEg T s d G x K=bEg T s d G' x K:=by
 unfold bEg
 rw [aE1 1 x h]
theorem aKu (ti:TI):∀(i:Nat) (ps:List (Nat×AV)),(∀ p∈aBi (ps.map (·.2)),G p=G' p)->aD4 G ti i ps=aD4 G' ti i ps
 |_,[],_=>rfl
 |i,(k,x)::ps,h=>by
  simp only [aD4]
  rw [aKu ti (i+1) ps (λp hp=>h p (by simp [aBi,hp])),aG3 (G:=G) (G':=G') (cells x) λp hp=>h p (by simp [aBi,aJ6 hp])]
theorem aRk {q:Nat}:∀{ps:List (Nat×AV)},q∈aKt ps->q∈aBi (ps.map (·.2))
 |[],h=>by simp [aKt] at h
 |(k,x)::ps,h=>by
  simp only [aKt,List.map_cons,aBi,List.mem_append] at h ⊢
  exact h.imp (λh=>aJ6 (aIc h)) aRk
theorem aIe {E:Operand->AV}:∀(xs:List Operand) (ts:List Nat),aEj G G' (aBi (xs.map E))->aIs T E G xs ts=aIs T E G' xs ts
 |[],_,_=>by simp [aIs]
 |x::xs,[],h=>by
  simp only [aIs]
  rw [aUk _ _ (h.mono λp hp=>by simp [aBi,hp]),aIe xs [] (h.mono λp hp=>by simp [aBi,hp])]
 |x::xs,t::ts,h=>by
  simp only [aIs]
  rw [aUk _ _ (h.mono λp hp=>by simp [aBi,hp]),aIe xs ts (h.mono λp hp=>by simp [aBi,hp])]
theorem bJc (ps:List Nat) (x:AV) (K:List (Nat×Ob)->Prop) (h:∀p∈ps,G p=G' p):bUf ps G x K=bUf ps G' x K:=by
 unfold bUf
 rw [aKa ps h,aNr ps h]
theorem bJf (aS:List AV) (n:Nat) (K:AV->List (Nat×Ob)->Prop) (x:AV) (h:aEj G G' (aBi aS)):bPe aS G n K x=bPe aS G' n K x:=by
 unfold bPe
 rw [<- aRn aS h]
 exact bJc _ _ _ λp hp=>h p (aUb (λq hq=>hq) hp)
theorem aEj.symm {ps:List Nat}(h:aEj G G' ps):aEj G' G ps:=λp hp=>by
 rw [aJ8 h] at hp
 exact (h p hp).symm
theorem aMq (dr:Bool) (f:FuncId) (aS:List AV) (n:Nat) (K:AV->List (Nat×Ob)->Prop) (h:aEj G G' (aBi aS)) (hk:aUt P gl dr f aS G n K):aUt P gl dr f aS G' n K:=by
 obtain ⟨ps,hc,hk⟩:=hk
 simp only [Bool.and_eq_true,bFf,List.all_eq_true] at hc
 have hg:∀p∈ps,G p=G' p:=λp hp=>by
  obtain ⟨q,hq,e⟩:=List.any_eq_true.1 (hc.2 p hp).2.1
  rw [Nat.eq_of_beq_eq_true e];exact h q hq
 have e1:aZ9 G' ps=aZ9 G ps:=by
  unfold aZ9
  exact List.map_congr_left λp hp=>by rw [hg p hp]
 refine ⟨ps,?_,by rw [e1];exact hk⟩
 simp only [Bool.and_eq_true,bFf,List.all_eq_true]
 refine ⟨hc.1,λp hp=>?_⟩
 rw [aJ8 h]
 have:=hc.2 p hp
 unfold aLc at this ⊢
 rw [<- hg p hp];exact this
theorem aR9 (dr:Bool) (f:FuncId) (nas aS:List AV) (n:Nat) (K:AV->List (Nat×Ob)->Prop) (h:aEj G G' (aBi aS)):bAy P gl dr f nas aS G n K=bAy P gl dr f nas aS G' n K:=by
 unfold bAy
 rw [show aUt P gl dr f aS G n K=aUt P gl dr f aS G' n K from propext ⟨aMq dr f aS n K h,aMq dr f aS n K h.symm⟩]
 unfold bO1
 have:bPe aS G n K=bPe aS G' n K:=funext λx=>bJf aS n K x h
 rw [this]
end Go.V
namespace Go.V
open Go.RowKit
variable {P:Program}{gl:Gl}{T:Tab}{G G':Nat->Ob}{E E':Operand->AV}{n:Nat}{K:AV->List (Nat×Ob)->Prop}{dr:Bool}
theorem aL9 (G:Nat->Ob):∀(xs:List Operand) (ts:List Nat),(∀ x∈xs,E x=E' x)->aIs T E G xs ts=aIs T E' G xs ts
 |[],_,_=>by simp [aIs]
 |x::xs,[],h=>by simp only [aIs];rw [h x (by simp),aL9 G xs [] λy hy=>h y (by simp [hy])]
 |x::xs,t::ts,h=>by simp only [aIs];rw [h x (by simp),aL9 G xs ts λy hy=>h y (by simp [hy])]
theorem bF5 (ps:List (Nat×Operand)) (h:∀x∈ps.map (·.2),E x=E' x):(ps.map λp=>(p.1,E p.2))=ps.map λp=>(p.1,E' p.2):=
 List.map_congr_left λp hp=>by rw [h p.2 (List.mem_map_of_mem hp)]
theorem cA8 (o:Op) (h:∀x∈o.operands.toList,E x=E' x):vop P gl T dr o E G n K=vop P gl T dr o E' G n K:=by
 cases o with
 |build t ps=>simp only [Op.operands,List.toList_toArray] at h;simp only [vop,bF5 _ h]
 |buildSlice t len ps=>simp only [Op.operands,List.toList_toArray] at h;simp only [vop,bF5 _ h]
 |makeFunc f fi cap=>
  cases f with
  |func f=>
   simp only [Op.operands,Array.toList_append,List.mem_append] at h
   simp only [vop]
   rw [List.map_congr_left λx hx=>h x (.inr hx)]
  |_=>rfl
 |makeMap t r=>cases r<;>rfl
 |slice t x lo hi mx=>
  cases mx with
  |some m=>rfl
  |none=>cases lo<;>cases hi<;>simp_all [Op.operands,vop]
 |call c=>
  obtain ⟨callee,args,ats⟩:=c
  have ha:∀x∈args.toList,E x=E' x:=λx hx=>h x (by simp [Op.operands,Call.operands];simp at hx;exact .inr hx)
  cases callee with
  |value f=>
   cases f with
   |func f=>simp only [vop];rw [aL9 G _ _ ha,List.map_congr_left ha]
   |tmp t=>
    have ht:E (.tmp t)=E' (.tmp t):=h _ (by simp [Op.operands,Call.operands])
    simp only [vop]
    rw [ht,aL9 G _ _ ha,List.map_congr_left ha]
   |_=>rfl
  |invoke r m=>rfl
  |builtin b=>
   cases b with
   |len=>
    obtain ⟨l⟩:=args
    cases l with
    |nil=>rfl
    |cons x r=>cases r with
     |nil=>
      simp only [vop,ha x (by simp)]
      cases ats.toList with
      |nil=>rfl
      |cons t ts=>cases ts<;>first|rfl|simp only [ha x (by simp)]
     |cons y r=>rfl
   |append=>
    obtain ⟨l⟩:=args
    cases l with
    |nil=>rfl
    |cons x r=>cases r with
     |nil=>rfl
     |cons y r=>cases r with
      |nil=>
       simp only [vop,ha x (by simp),ha y (by simp)]
       cases ats.toList with
       |nil=>rfl
       |cons t ts=>cases ts with
        |nil=>rfl
        |cons u us=>cases us<;>first|rfl|simp only [ha x (by simp),ha y (by simp)]
      |cons z r=>rfl
   |copy=>
    obtain ⟨l⟩:=args
    cases l with
    |nil=>rfl
    |cons x r=>cases r with
     |nil=>rfl
     |cons y r=>cases r with
      |nil=>
       simp only [vop,ha x (by simp),ha y (by simp)]
       cases ats.toList with
       |nil=>rfl
       |cons t ts=>cases ts with
        |nil=>rfl
        |cons u us=>cases us<;>first|rfl|simp only [ha x (by simp),ha y (by simp)]
      |cons z r=>rfl
   |min=>
    obtain ⟨l⟩:=args
    cases l with
    |nil=>rfl
    |cons x r=>cases r with
     |nil=>rfl
     |cons y r=>cases r with
      |nil=>simp only [vop,ha x (by simp),ha y (by simp)]
      |cons z r=>rfl
   |max=>
    obtain ⟨l⟩:=args
    cases l with
    |nil=>rfl
    |cons x r=>cases r with
     |nil=>rfl
     |cons y r=>cases r with
      |nil=>simp only [vop,ha x (by simp),ha y (by simp)]
      |cons z r=>rfl
   |_=>rfl
 |binOp op t x y ty=>simp only [Op.operands] at h;simp only [vop,h x (by simp),h y (by simp)]
 |unOp op t x=>simp only [Op.operands] at h;cases op<;>simp only [vop,h x (by simp)]
 |next x b=>simp only [Op.operands] at h;cases b<;>simp_all [vop]
 |_=>simp only [Op.operands] at h<;>simp_all [vop]
theorem cA9 (o:Op) (h:aEj G G' (aBi (o.operands.toList.map E))):vop P gl T dr o E G n K=vop P gl T dr o E G' n K:=by
 have ev:∀x∈o.operands.toList,aEj G G' (aEu (E x)):=λx hx=>h.mono λp hp=>by
  have:∀l:List Operand,x∈l->p∈aBi (l.map E):=λl=>by
   induction l with
   |nil=>simp
   |cons y r ih=>
    intro hm
    simp only [List.mem_cons] at hm
    simp only [List.map_cons,aBi,List.mem_append]
    rcases hm with rfl|hm
    · exact .inl hp
    · exact .inr (ih hm)
  exact this _ hx
 have ev1:∀x∈o.operands.toList,∀p∈aEu (E x),G p=G' p:=λx hx p hp=>(ev x hx).at hp
 cases o with
 |load t x=>simp only [vop];exact bEk _ _ _ (ev1 x (by simp [Op.operands]))
 |store t x y=>simp only [vop];exact bA4 _ _ _ _ (ev1 x (by simp [Op.operands])) (ev1 y (by simp [Op.operands]))
 |nilCheck x=>
  have:=ev1 x (by simp [Op.operands])
  simp only [vop]
  cases hx:E x with
  |bptr p c=>rw [hx] at this;simp only [aLc,this p (by simp [aEu])]
  |_=>rfl
 |convert s d x=>simp only [vop];exact bEh _ _ _ _ (ev x (by simp [Op.operands]))
 |buildSlice t len ps=>
  simp only [Op.operands,List.toList_toArray] at h
  have hh:∀p∈aBi ((ps.toList.map λp=>(p.1,E p.2)).map (·.2)),G p=G' p:=λp hp=>h.at (by simpa [Function.comp_def] using hp)
  simp only [vop]
  have e1:∀ti,aD4 G ti 0 (ps.toList.map λp=>(p.1,E p.2))=aD4 G' ti 0 (ps.toList.map λp=>(p.1,E p.2)):=λti=>aKu ti 0 _ hh
  have e2:=aKa (G:=G) (G':=G') (aKt (ps.toList.map λp=>(p.1,E p.2))) λp hp=>hh p (aRk hp)
  simp only [e1,e2]
 |fieldAddr t x f=>
  have:=ev1 x (by simp [Op.operands])
  simp only [vop]
  cases hx:E x with
  |bptr p c=>rw [hx] at this;simp only [aLc,this p (by simp [aEu])]
  |ptr p i c=>rw [hx] at this;simp only [aLc,this p (by simp [aEu])]
  |_=>rfl
 |slice t x lo hi mx=>
  cases mx with
  |some m=>rfl
  |none=>simp only [vop];exact bA3 _ _ _ _ _ (ev1 x (by simp [Op.operands]))
 |indexAddr t x i=>
  have:=ev1 x (by simp [Op.operands])
  simp only [vop]
  cases E i<;>first|rfl|exact bA2 _ _ _ _ this
 |lookup t x i ok=>
  have:=ev1 x (by simp [Op.operands])
  simp only [vop]
  cases hx:E x with
  |map p=>rw [hx] at this;have:=this p (by simp [aEu]);cases E i<;>first|rfl|(simp only [this])
  |_=>rfl
 |next x b=>
  have:=ev1 x (by simp [Op.operands])
  cases b with
  |false=>rfl
  |true=>
   simp only [vop]
   cases hx:E x with
   |bptr p c=>rw [hx] at this;have e1:=this p (by simp [aEu]);clear this;cases c<;>first|rfl|(simp only [e1])
   |_=>rfl
 |mapUpdate t m k v=>
  have:=ev1 m (by simp [Op.operands])
  simp only [vop]
  cases hx:E m with
  |map p=>rw [hx] at this;have:=this p (by simp [aEu]);cases E k<;>first|rfl|(simp only [this])
  |_=>rfl
 |insert t m k v=>
  have:=ev1 m (by simp [Op.operands])
  simp only [vop]
  cases hx:E m with
  |map p=>rw [hx] at this;have:=this p (by simp [aEu]);cases E k<;>first|rfl|(simp only [this])
  |_=>rfl
 |makeMap t r=>cases r<;>rfl
 |makeFunc f fi cap=>cases f<;>rfl
 |unOp op t x=>cases op<;>rfl
 |call c=>
  obtain ⟨callee,args,ats⟩:=c
  have hargs:aEj G G' (aBi (args.toList.map E)):=h.mono λp hp=>by
   simp only [Op.operands,Call.operands,Array.toList_append,List.map_append]
   have:∀xs ys:List AV,p∈aBi ys->p∈aBi (xs++ys):=λxs ys hy=>by
    induction xs with
    |nil=>exact hy
    |cons z zs ih=>simp only [List.cons_append,aBi,List.mem_append];exact .inr ih
   exact this _ _ hp
  cases callee with
  |value f=>
   cases f with
   |func f=>simp only [vop];rw [aIe _ _ hargs];exact aR9 _ _ _ _ _ _ hargs
   |tmp t=>
    have ht:=ev (.tmp t) (by simp [Op.operands,Call.operands])
    simp only [vop]
    cases hx:E (.tmp t) with
    |fn f cap=>
     rw [hx] at ht
     simp only [aEu] at ht
     simp only []
     rw [aIe _ _ hargs,aGd [] cap ht]
     refine aR9 _ _ _ _ _ _ (h.mono λp hp=>?_)
     have app:∀xs ys:List AV,p∈aBi (xs++ys)↔p∈aBi xs\/p∈aBi ys:=λxs ys=>by
      induction xs with
      |nil=>simp [aBi]
      |cons z zs ih=>simp only [List.cons_append,aBi,List.mem_append,ih,or_assoc]
     simp only [Op.operands,Call.operands,Array.toList_append,List.map_append,app]
     rcases (app _ _).1 hp with hp|hp
     · exact .inr hp
     · exact .inl (by simp [hx,aBi,aEu,hp])
    |_=>rfl
   |_=>rfl
  |invoke r m=>rfl
  |builtin b=>
   cases b with
   |len=>
    obtain ⟨l⟩:=args
    cases l with
    |nil=>rfl
    |cons x r=>cases r with
     |nil=>
      simp only [vop]
      cases ats.toList with
      |nil=>rfl
      |cons t ts=>cases ts with
       |nil=>exact bJe _ _ _ (ev1 x (by simp [Op.operands,Call.operands]))
       |cons u us=>rfl
     |cons y r=>rfl
   |append=>
    obtain ⟨l⟩:=args
    cases l with
    |nil=>rfl
    |cons x r=>cases r with
     |nil=>rfl
     |cons y r=>cases r with
      |nil=>
       simp only [vop]
       cases ats.toList with
       |nil=>rfl
       |cons t ts=>cases ts with
        |nil=>rfl
        |cons u us=>cases us with
         |nil=>simp only [];rw [aXo _ _ _ _ _ (ev1 x (by simp [Op.operands,Call.operands])) (ev y (by simp [Op.operands,Call.operands]))]
         |cons _ _=>rfl
      |cons z r=>rfl
   |copy=>
    obtain ⟨l⟩:=args
    cases l with
    |nil=>rfl
    |cons x r=>cases r with
     |nil=>rfl
     |cons y r=>cases r with
      |nil=>
       simp only [vop]
       cases ats.toList with
       |nil=>rfl
       |cons t ts=>cases ts with
        |nil=>rfl
        |cons u us=>cases us with
         |nil=>simp only [];rw [bEi _ _ _ _ (ev1 x (by simp [Op.operands,Call.operands])) (ev y (by simp [Op.operands,Call.operands]))]
         |cons _ _=>rfl
      |cons z r=>rfl
   |_=>rfl
 |_=>rfl
theorem aRx (o:Op) (h:∀p∈aIt E G o,G p=G' p):aIt E G' o=aIt E G o/\vop P gl T dr o E G n K=vop P gl T dr o E G' n K:=by
 have gen:aIt E G o=aT0 G (aBi (o.operands.toList.map E))->aIt E G' o=aT0 G' (aBi (o.operands.toList.map E))->aIt E G' o=aIt E G o/\vop P gl T dr o E G n K=vop P gl T dr o E G' n K:=λe1 e2=>by
  have hA:aEj G G' (aBi (o.operands.toList.map E)):=λp hp=>h p (by rw [e1];exact hp)
  exact ⟨by rw [e1,e2];exact aJ8 hA,cA9 o hA⟩
 cases o<;>first|exact ⟨rfl,rfl⟩|exact gen rfl rfl
theorem bS0 (o:Op) (h:∀x∈o.operands.toList,E x=E' x):aIt E G o=aIt E' G o:=by
 have e:o.operands.toList.map E=o.operands.toList.map E':=List.map_congr_left h
 cases o<;>first|rfl|(simp only [aIt];rw [e])
end Go.V
namespace Go.V
open Go.RowKit
variable {P:Program}{gl:Gl}{T:Tab}{G:Nat->Ob}{E:Operand->AV}{n:Nat}
def Ang {α:Type}(X:(α->Prop)->Prop):Prop:=∀K,X K->∃v,K v/\∀K',K' v->X K'
theorem Ang.pt {α:Type}(v:α):Ang λK=>K v:=λK h=>⟨v,h,λK' h'=>h'⟩
theorem Ang.no {α:Type}:Ang (α:=α) λ_=>False:=λK h=>h.elim
theorem Ang.and {α:Type}(p:Prop){X:(α->Prop)->Prop}(h:Ang X):Ang λK=>p/\X K:=λK hk=>by
 obtain ⟨v,h1,h2⟩:=h K hk.2
 exact ⟨v,h1,λK' h'=>⟨hk.1,h2 K' h'⟩⟩
theorem Ang.ex {α β:Type}{X:β->(α->Prop)->Prop}(h:∀b,Ang (X b)):Ang λK=>∃b,X b K:=λK ⟨b,hk⟩=>by
 obtain ⟨v,h1,h2⟩:=h b K hk
 exact ⟨v,h1,λK' h'=>⟨b,h2 K' h'⟩⟩
theorem Ang.chk {α:Type}(b:Bool){X:(α->Prop)->Prop}(h:Ang X):Ang λK=>chk b (X K):=λK hk=>by
 cases b with
 |false=>exact hk.elim
 |true=>
  obtain ⟨v,h1,h2⟩:=h K hk
  exact ⟨v,h1,λK' h'=>h2 K' h'⟩
theorem Ang.bind {α β:Type}{X:(α->Prop)->Prop}(h:Ang X){Y:α->(β->Prop)->Prop}(hy:∀a,Ang (Y a)):Ang λK=>X λa=>Y a K:=λK hk=>by
 obtain ⟨v,h1,h2⟩:=h _ hk
 obtain ⟨u,h3,h4⟩:=hy v K h1
 exact ⟨u,h3,λK' h'=>h2 _ (h4 K' h')⟩
theorem bDw (ti:TI) (cs:List AV):Ang (ldc ti cs):=by
 intro K h
 unfold ldc at h ⊢
 cases hk:ti.k<;>rw [hk] at h<;>simp only at h ⊢ <;>first
  |exact h.elim
  |(generalize ti.ag=g at h ⊢
    cases g with
    |true=>exact Ang.chk _ (.pt _) K h
    |false=>cases cs with
     |nil=>exact h.elim
     |cons x r=>exact ⟨_,h,λK' h'=>h'⟩)
theorem bO5 (ti:TI) (x:AV):Ang (aXr ti G x):=by
 intro K h
 unfold aXr at h ⊢
 cases x with
 |rp cs=>exact bDw ti cs K h
 |bptr p c=>cases hg:G p<;>simp only [hg] at h ⊢ <;>first|exact h.elim|exact bDw ti _ K h
 |ptr p i c=>cases hg:G p<;>simp only [hg] at h ⊢ <;>first|exact h.elim|exact Ang.ex (λcs=>Ang.and _ (bDw ti _)) K h
 |_=>exact h.elim
theorem bXz (neg cst:Bool) (ti:TI) (x y:AV):Ang (veq true neg cst ti x y):=by
 intro K h
 unfold veq at h ⊢
 cases hk:ti.k<;>rw [hk] at h<;>simp only at h ⊢ <;>first
  |exact h.elim
  |(cases x<;>cases y<;>first|exact h.elim|exact Ang.ex (λr=>Ang.and _ (.pt _)) K h)
  |(cases cst<;>first|exact h.elim|(cases x<;>cases y<;>first|exact h.elim|exact ⟨_,h,λK' h'=>h'⟩))
  |(cases y<;>first|exact h.elim|(cases x<;>first|exact h.elim|exact ⟨_,h,λK' h'=>h'⟩|(rename_i es;cases es<;>first|exact h.elim|exact ⟨_,h,λK' h'=>h'⟩)))
set_option maxHeartbeats 4000000 in
theorem bTe (op:BinOp) (cst:Bool) (ti:TI) (x y:AV):Ang (cA6 true op cst ti x y):=by
 intro K h
 cases op<;>cases x<;>cases y<;>first
  |exact False.elim h
  |exact Ang.chk _ (.pt _) K h
  |exact Ang.chk _ (.ex λr=>.and _ (.pt _)) K h
  |exact Ang.and _ (.ex λr=>.and _ (.pt _)) K h
  |exact Ang.chk _ (.and _ (.ex λr=>.and _ (.pt _))) K h
  |exact Ang.chk _ (.and _ (.and _ (.and _ (.and _ (.ex λr=>.and _ (.pt _)))))) K h
  |exact Ang.and _ (.pt _) K h
  |exact ⟨_,h,λK' h'=>h'⟩
  |(simp only [cA6] at h ⊢;exact bXz _ _ _ _ _ K h)
theorem aIx {α:Type}(x:Option AV) (d:Int){X:Int->(α->Prop)->Prop}(h:∀n,Ang (X n)):Ang λK=>bnd x d λn=>X n K:=by
 intro K hk
 unfold bnd at hk ⊢
 cases x with
 |none=>exact h _ K hk
 |some y=>cases y<;>first|exact hk.elim|exact h _ K hk
theorem aUq {α:Type}(t:Nat){X:Nat->TI->(α->Prop)->Prop}(h:∀e ti,Ang (X e ti)):Ang λK=>T.sl t λe ti=>X e ti K:=by
 intro K hk
 unfold Tab.sl at hk ⊢
 cases h1:(T.ti t).k<;>rw [h1] at hk<;>simp only at hk ⊢ <;>first
  |exact hk.elim
  |(rename_i e
    cases h2:(T.ti e).k<;>rw [h2] at hk<;>simp only at hk ⊢ <;>first
     |exact hk.elim
     |exact h _ _ K hk)
theorem bJh (t:Nat) (x:AV) (lo hi:Option AV):Ang (aSd T t G x lo hi):=by
 have hs:Ang λK:AV->Prop=>T.sl t λ_ ti=>match x with
  | .ro sz es=>chk (Nat.beq sz ti.size) <| bnd lo 0 λl=>bnd hi es.length λu=>0<=l/\l<=u/\u<=es.length/\∃r,r=(es.drop l.toNat).take (u.toNat - l.toNat)/\K (.ro sz r)
  | .nils=>bnd lo 0 λl=>bnd hi 0 λu=>l=0/\u=0/\K .nils
  | .own p off len=>match G p with
    | .row _ _ sz _=>chk (Nat.beq sz ti.size) <| bnd lo 0 λl=>bnd hi len λu=>0<=l/\l<=u/\u<=len/\(l=0\/l<u)/\∃o' n':Nat,(o':Int)=off+l/\(n':Int)=u - l/\K (.own p o' n')
    |_=>False
  |_=>False:=aUq t λe ti=>by
  cases x with
  |ro sz es=>exact .chk _ (aIx _ _ λl=>aIx _ _ λu=>.and _ (.and _ (.and _ (.ex λr=>.and _ (.pt _)))))
  |nils=>exact aIx _ _ λl=>aIx _ _ λu=>.and _ (.and _ (.pt _))
  |own p off len=>dsimp only;generalize G p=g;cases g<;>first|exact .no|exact .chk _ (aIx _ _ λl=>aIx _ _ λu=>.and _ (.and _ (.and _ (.and _ (.ex λo'=>.ex λn'=>.and _ (.and _ (.pt _)))))))
  |_=>exact .no
 intro K h
 unfold aSd at h ⊢
 cases h1:(T.ti t).k<;>rw [h1] at h<;>simp only at h ⊢ <;>first
  |exact hs K h
  |(cases x<;>first|exact h.elim|exact aIx _ _ (λl=>aIx _ _ λu=>.and _ (.and _ (.and _ (.ex λr=>.and _ (.pt _))))) K h)
theorem bJd (t:Nat) (x:AV) (i:Int):Ang (aSc T t G x i):=by
 have key:Ang λK:AV->Prop=>T.sl t λ_ ti=>match x with
  | .ro sz es=>chk (Nat.beq sz ti.size) <| ∃(n:Nat) (cs:List AV),i=n/\es[n]? =some cs/\K (.rp cs)
  | .own p off len=>match G p with
    | .row _ _ sz _=>chk (Nat.beq sz ti.size) <| ∃n:Nat,i=n/\n<len/\K (.ptr p (off+n) 0)
    |_=>False
  |_=>False:=by
  refine aUq t λe ti=>?_
  cases x with
  |ro sz es=>exact .chk _ (.ex λn=>.ex λcs=>.and _ (.and _ (.pt _)))
  |own p off len=>dsimp only;generalize G p=g;cases g<;>first|exact .no|exact .chk _ (.ex λn=>.and _ (.and _ (.pt _)))
  |_=>exact .no
 intro K h
 unfold aSc at h ⊢
 cases hk:(T.ti t).k with
 |arr m e=>
  rw [hk] at h
  simp only at h ⊢
  cases he:(T.ti e).k<;>rw [he] at h<;>simp only at h ⊢ <;>first
   |exact h.elim
   |(cases x with
    |rp cs=>exact Ang.ex (λj=>.and _ (.and _ (.pt _))) K h
    |bptr p c=>exact Ang.chk _ (.ex λj=>.and _ (.and _ (.pt _))) K h
    |_=>exact False.elim h)
 |_=>rw [hk] at h;exact key K h
theorem bJi (ti:TI) (x y:AV):Ang (aSe ti G x y):=by
 intro K h
 unfold aSe at h ⊢
 cases x with
 |bptr p c=>cases hg:G p<;>simp only [hg] at h ⊢ <;>first|exact h.elim|exact Ang.chk _ (.pt _) K h
 |ptr p i c=>
  cases hg:G p with
  |row fz e sz es=>
   simp only [hg] at h ⊢
   cases fz with
   |true=>exact h.elim
   |false=>exact Ang.chk _ (.chk _ (.ex λcs=>.and _ (.pt _))) K h
  |_=>simp only [hg] at h
 |_=>exact h.elim
theorem bTh (ti:TI) (x:AV):Ang (bX1 ti G x):=by
 intro K h
 unfold bX1 at h ⊢
 cases h1:ti.k<;>rw [h1] at h<;>simp only at h ⊢ <;>first
  |exact h.elim
  |(cases x<;>first|exact h.elim|exact ⟨_,h,λK' h'=>h'⟩|exact Ang.chk _ (.pt _) K h)
theorem bO2 (s d:Nat) (x:AV):Ang (bEg T s d G x):=by
 intro K h
 unfold bEg at h ⊢
 generalize (T.ti s).k=ks at h ⊢
 generalize (T.ti d).k=kd at h ⊢
 cases ks with
 |int k0=>
  dsimp only at h ⊢
  cases kd with
  |int k=>cases x<;>first|exact False.elim h|exact Ang.ex (λr=>.and _ (.pt _)) K h
  |_=>exact False.elim h
 |str=>
  dsimp only at h ⊢
  cases kd with
  |str=>cases x<;>first|exact False.elim h|exact ⟨_,h,λK' h'=>h'⟩
  |_=>exact False.elim h
 |slice e=>
  dsimp only at h ⊢
  generalize (T.ti e).k=ke at h ⊢
  cases ke with
  |int k=>
   cases k with
   |u8=>
    dsimp only at h ⊢
    cases kd with
    |str=>
     dsimp only at h ⊢
     generalize aDv G 1 x=y at h ⊢
     cases y with
     |ro sz es=>
      match sz,h with
      |1,h=>exact Ang.ex (λbs=>.and _ (.pt _)) K h
     |_=>exact False.elim h
    |_=>exact False.elim h
   |_=>exact False.elim h
  |_=>exact False.elim h
 |_=>exact False.elim h
theorem bO3 (t:Nat) (x y:AV) (K:AV->List (Nat×Ob)->Prop) (h:bA0 T t G x y K):∃v d,K v d/\∀K':AV->List (Nat×Ob)->Prop,K' v d->bA0 T t G x y K':=by
 have:Ang λK:AV×List (Nat×Ob)->Prop=>bA0 T t G x y λv d=>K (v,d):=by
  refine aUq t λe ti=>?_
  dsimp only
  generalize aDv G ti.size y=z
  cases z with
  |ro sz new=>
   refine .chk _ ?_
   cases x with
   |own p off len=>
    show Ang λK:AV×List (Nat×Ob)->Prop=>match G p with
     | .row false e' sz' es=>chk (Nat.beq sz' 1) <| ∃m:Nat,m=min new.length len/\off+m<=es.length/\∃r,r=es.take off++new.take m++es.drop (off+m)/\K (.int .i64 m,[(p,.row false e' 1 r)])
     |_=>False
    generalize G p=g
    cases g with
    |row fz e' sz' es=>
     cases fz with
     |false=>exact .chk _ (.ex λm=>.and _ (.and _ (.ex λr=>.and _ (.pt _))))
     |true=>exact .no
    |_=>exact .no
   |_=>exact .no
  |_=>exact .no
 obtain ⟨v,h1,h2⟩:=this (λp=>K p.1 p.2) h
 exact ⟨v.1,v.2,h1,λK' h'=>h2 (λp=>K' p.1 p.2) h'⟩
theorem bEf (t:Nat) (x y:AV) (K:AV->List (Nat×Ob)->Prop) (h:aJu T t G n x y K):∃v d,K v d/\∀K':AV->List (Nat×Ob)->Prop,K' v d->aJu T t G n x y K':=by
 have:Ang λK:AV×List (Nat×Ob)->Prop=>aJu T t G n x y λv d=>K (v,d):=by
  refine aUq t λe ti=>?_
  dsimp only
  generalize aDv G ti.size y=z
  cases z with
  |ro sz new=>
   refine .chk _ ?_
   cases x with
   |nils=>exact .and _ (.and _ (.pt _))
   |own p off len=>
    cases off with
    |zero=>
     show Ang λK:AV×List (Nat×Ob)->Prop=>match G p with
      | .row false e' sz' es=>chk (Nat.beq e' e && Nat.beq sz' ti.size) <| len<=es.length/\(len+new.length)*ti.bytes<=140737488355328/\
         ∃r,r=es.take len++new/\K (.own n 0 r.length,[(p,.gone),(n,.row false e ti.size r)])
      |_=>False
     generalize G p=g
     cases g with
     |row fz e' sz' es=>
      cases fz with
      |false=>exact .chk _ (.and _ (.and _ (.ex λr=>.and _ (.pt _))))
      |true=>exact .no
     |_=>exact .no
    |succ k=>exact .no
   |_=>exact .no
  |_=>exact .no
 obtain ⟨v,h1,h2⟩:=this (λp=>K p.1 p.2) h
 exact ⟨v.1,v.2,h1,λK' h'=>h2 (λp=>K' p.1 p.2) h'⟩
theorem bTf (ps:List Nat) (x:AV):Ang (bUf ps G x):=by
 intro K h
 unfold bUf at h ⊢
 cases ps with
 |nil=>exact ⟨_,h,λK' h'=>h'⟩
 |cons p r=>
  dsimp only at h ⊢
  generalize roQ x=q at h ⊢
  cases q with
  |none=>
   refine Ang.ex (λb=>?_) K h
   cases b with
   |true=>exact .chk _ (.pt _)
   |false=>exact .and _ (.pt _)
  |some b=>cases b with
   |true=>exact Ang.chk _ (.pt _) K h
   |false=>exact ⟨_,h,λK' h'=>h'⟩
theorem bAz (f:FuncId) (nas aS:List AV) (K:AV->List (Nat×Ob)->Prop) (h:bAy P gl true f nas aS G n K):∃v d,K v d/\∀K':AV->List (Nat×Ob)->Prop,K' v d->bAy P gl true f nas aS G n K':=by
 rcases h with h|⟨ps,hc,r,h',h1,h2⟩
 · obtain ⟨r,h1,h2⟩:=h
   obtain ⟨d,h3,h4⟩:=bTf _ _ _ h2
   exact ⟨_,_,h3,λK' h'=>.inl ⟨r,h1,h4 _ h'⟩⟩
 · exact ⟨_,_,h2,λK' h2'=>.inr ⟨ps,hc,r,h',h1,h2'⟩⟩
theorem aMz {X:(AV->Prop)->Prop}(hx:Ang X){K:AV->List (Nat×Ob)->Prop}(h:X λr=>K r []):∃v d,K v d/\∀K':AV->List (Nat×Ob)->Prop,K' v d->X λr=>K' r []:=by
 obtain ⟨v,h1,h2⟩:=hx _ h
 exact ⟨v,[],h1,λK' h'=>h2 _ h'⟩
theorem aDk {X:(AV->List (Nat×Ob)->Prop)->Prop}(hx:Ang λK:AV×List (Nat×Ob)->Prop=>X λv d=>K (v,d)){K:AV->List (Nat×Ob)->Prop}(h:X K):∃v d,K v d/\∀K':AV->List (Nat×Ob)->Prop,K' v d->X K':=by
 obtain ⟨v,h1,h2⟩:=hx (λp=>K p.1 p.2) h
 exact ⟨v.1,v.2,h1,λK' h'=>h2 (λp=>K' p.1 p.2) h'⟩
theorem bO6 (o:Op){K:AV->List (Nat×Ob)->Prop}(h:vop P gl T true o E G n K):∃v d,K v d/\∀K':AV->List (Nat×Ob)->Prop,K' v d->vop P gl T true o E G n K':=by
 have pt:∀{v d} {X:(AV->List (Nat×Ob)->Prop)->Prop},K v d->(∀ K':AV->List (Nat×Ob)->Prop,K' v d->X K')->∃v d,K v d/\∀K':AV->List (Nat×Ob)->Prop,K' v d->X K':=λh1 h2=>⟨_,_,h1,h2⟩
 cases o with
 |move x=>exact ⟨_,_,h,λK' h'=>h'⟩
 |assign x=>exact ⟨_,_,h,λK' h'=>h'⟩
 |pick c x y=>
  simp only [vop] at h ⊢
  generalize E c=z at h ⊢
  cases z with
  |bool b=>cases b<;>exact ⟨_,_,h,λK' h'=>h'⟩
  |_=>exact False.elim h
 |alloc t=>
  simp only [vop] at h ⊢
  generalize (T.ti t).k=k at h ⊢
  cases k<;>first|exact False.elim h|exact ⟨_,_,h,λK' h'=>h'⟩
 |box t x=>
  simp only [vop] at h ⊢
  exact aDk (.chk _ (.pt (_,_))) h
 |build t ps=>
  simp only [vop] at h ⊢
  generalize (T.ti t).k=k at h ⊢
  cases k<;>first|exact False.elim h|exact aDk (.chk _ (.pt (_,_))) h
 |buildSlice t len ps=>
  simp only [vop] at h ⊢
  refine aDk (aUq t λe ti=>?_) h
  dsimp only
  generalize aD4 G ti 0 (ps.toList.map λp=>(p.1,E p.2))=z
  cases z with
  |none=>exact .no
  |some es=>exact .chk _ (.pt (_,_))
 |insert t m k v=>
  simp only [vop] at h ⊢
  generalize (T.ti t).k=kk at h ⊢
  cases kk with
  |map e=>
   dsimp only at h ⊢
   generalize E m=x at h ⊢
   generalize E k=y at h ⊢
   cases x<;>cases y<;>first|exact False.elim h|skip
   rename_i p s
   dsimp only at h ⊢
   generalize G p=g at h ⊢
   cases g<;>first|exact False.elim h|exact aDk (.ex λr=>.and _ (.pt (_,_))) h
  |_=>exact False.elim h
 |mapUpdate t m k v=>
  simp only [vop] at h ⊢
  generalize (T.ti t).k=kk at h ⊢
  cases kk with
  |map e=>
   dsimp only at h ⊢
   generalize E m=x at h ⊢
   generalize E k=y at h ⊢
   cases x<;>cases y<;>first|exact False.elim h|skip
   rename_i p s
   dsimp only at h ⊢
   generalize G p=g at h ⊢
   cases g<;>first|exact False.elim h|exact aDk (.ex λr=>.and _ (.pt (_,_))) h
  |_=>exact False.elim h
 |load t x=>exact aMz (bO5 _ _) h
 |store t x y=>
  obtain ⟨d,h1,h2⟩:=bJi _ _ _ _ h
  exact ⟨_,d,h1,λK' h'=>h2 _ h'⟩
 |nilCheck x=>
  simp only [vop] at h ⊢
  generalize E x=z at h ⊢
  cases z<;>first|exact False.elim h|exact ⟨_,_,h,λK' h'=>h'⟩|exact aDk (.chk _ (.pt (_,_))) h
 |binOp op t x y ty=>exact aMz (bTe _ _ _ _ _) h
 |unOp op t x=>
  cases op with
  |not=>
   simp only [vop] at h ⊢
   generalize E x=z at h ⊢
   cases z<;>first|exact False.elim h|exact ⟨_,_,h,λK' h'=>h'⟩
  |neg=>
   simp only [vop] at h ⊢
   generalize E x=z at h ⊢
   cases z<;>first|exact False.elim h|exact aDk (.ex λr=>.and _ (.pt (_,_))) h
  |_=>exact False.elim h
 |convert s d x=>exact aMz (bO2 _ _ _) h
 |makeInterface t x=>
  simp only [vop] at h ⊢
  generalize (T.ti t).k=k at h ⊢
  cases k<;>first|exact False.elim h|exact ⟨_,_,h,λK' h'=>h'⟩
 |makeFunc f fi cap=>
  cases f with
  |func f=>
   simp only [vop] at h ⊢
   generalize fi.toList=l at h ⊢
   cases l with
   |nil=>exact ⟨_,_,h,λK' h'=>h'⟩
   |cons _ _=>exact False.elim h
  |_=>exact False.elim h
 |makeMap t r=>
  cases r with
  |none=>exact ⟨_,_,h,λK' h'=>h'⟩
  |some _=>exact False.elim h
 |makeSlice t l c=>
  simp only [vop] at h ⊢
  generalize E l=x at h ⊢
  generalize E c=y at h ⊢
  cases x with
  |int k a=>cases k with
   |i64=>cases y with
    |int k b=>cases k with
     |i64=>exact aDk (aUq t λe ti=>.chk _ (.and _ (.and _ (.and _ (.and _ (.ex λm=>.and _ (.pt (_,_)))))))) h
     |_=>exact False.elim h
    |_=>exact False.elim h
   |_=>exact False.elim h
  |_=>exact False.elim h
 |slice t x lo hi mx=>
  cases mx with
  |some _=>exact False.elim h
  |none=>exact aMz (bJh _ _ _ _) h
 |fieldAddr t x f=>
  simp only [vop] at h ⊢
  generalize (T.ti t).k=k at h ⊢
  cases k with
  |strc fs=>
   dsimp only at h ⊢
   generalize fs[f]? =z at h ⊢
   cases z with
   |none=>exact False.elim h
   |some q=>
    obtain ⟨off,kk,ag⟩:=q
    dsimp only at h ⊢
    generalize E x=z at h ⊢
    cases z<;>first
     |exact aDk (.chk _ (.chk _ (.pt (_,_)))) h
     |exact aDk (.chk _ .no) h
  |_=>exact False.elim h
 |field t x f=>
  simp only [vop] at h ⊢
  generalize (T.ti t).k=k at h ⊢
  cases k with
  |strc fs=>
   dsimp only at h ⊢
   generalize fs[f]? =z at h ⊢
   cases z with
   |none=>exact False.elim h
   |some q=>
    obtain ⟨off,kk,ag⟩:=q
    dsimp only at h ⊢
    generalize E x=z at h ⊢
    cases z with
    |agg cs=>
     cases ag with
     |true=>exact aDk (.chk _ (.pt (_,_))) h
     |false=>
      dsimp only at h ⊢
      generalize cs.drop off=l at h ⊢
      cases l with
      |nil=>exact aDk (.chk _ .no) h
      |cons c r=>exact aDk (.chk _ (.pt (_,_))) h
    |_=>exact False.elim h
  |_=>exact False.elim h
 |indexAddr t x i=>
  simp only [vop] at h ⊢
  generalize E i=z at h ⊢
  cases z<;>first|exact False.elim h|exact aMz (bJd _ _ _) h
 |index t x i=>
  simp only [vop] at h ⊢
  generalize E i=z at h ⊢
  cases z with
  |int k m=>
   dsimp only at h ⊢
   generalize (T.ti t).k=kk at h ⊢
   generalize E x=y at h ⊢
   cases kk with
   |str=>cases y with
    |str s=>exact aDk (.ex λk=>.ex λc=>.and _ (.and _ (.pt (_,_)))) h
    |_=>exact False.elim h
   |_=>exact False.elim h
  |_=>exact False.elim h
 |lookup t x i ok=>
  simp only [vop] at h ⊢
  generalize (T.ti t).k=kk at h ⊢
  cases kk with
  |map e=>
   dsimp only at h ⊢
   generalize (T.ti e).k=ke at h ⊢
   generalize E x=y at h ⊢
   generalize E i=z at h ⊢
   cases y with
   |map p=>cases z with
    |str s=>
     have key:∀K:AV->List (Nat×Ob)->Prop,(match (generalizing:=false) G p with
      | .kv l=>match (generalizing:=false) ok with
        |false=>∃r,r=(aEz l s).getD (cav (T.ti e).zv)/\K r []
        |true=>∃r b,r=(aEz l s).getD (cav (T.ti e).zv)/\b=(aEz l s).isSome/\K (.tup [r,.bool b]) []
      |_=>False)->∃v d,K v d/\∀K':AV->List (Nat×Ob)->Prop,K' v d->(match (generalizing:=false) G p with
      | .kv l=>match (generalizing:=false) ok with
        |false=>∃r,r=(aEz l s).getD (cav (T.ti e).zv)/\K' r []
        |true=>∃r b,r=(aEz l s).getD (cav (T.ti e).zv)/\b=(aEz l s).isSome/\K' (.tup [r,.bool b]) []
      |_=>False):=λK h=>by
      generalize G p=g at h ⊢
      cases g with
      |kv l=>
       cases ok with
       |false=>obtain ⟨r,h1,h2⟩:=h;exact ⟨_,_,h2,λK' h'=>⟨r,h1,h'⟩⟩
       |true=>obtain ⟨r,b,h1,h2,h3⟩:=h;exact ⟨_,_,h3,λK' h'=>⟨r,b,h1,h2,h'⟩⟩
      |_=>exact False.elim h
     cases ke<;>first|exact False.elim h|exact key _ h
    |_=>cases ke<;>exact False.elim h
   |_=>cases ke<;>exact False.elim h
  |_=>exact False.elim h
 |range t x=>
  simp only [vop] at h ⊢
  generalize (T.ti t).k=kk at h ⊢
  generalize E x=z at h ⊢
  cases kk<;>first|exact False.elim h|(cases z<;>first|exact False.elim h|exact aDk (.pt (_,_)) h)
 |next x b=>
  cases b with
  |false=>exact False.elim h
  |true=>
   simp only [vop] at h ⊢
   generalize E x=z at h ⊢
   cases z with
   |bptr p c=>
    cases c with
    |succ c=>exact False.elim h
    |zero=>
     have key:∀K:AV->List (Nat×Ob)->Prop,(match (generalizing:=false) G p with
      | .iter s k=>match Nat.blt k s.size with
        |true=>∃c m,(c,m)=Utf8.decode s k/\K (.tup [.bool true,.int .i64 k,.int .i32 c]) [(p,.iter s (k+m))]
        |false=>K (.tup [.bool false]) []
      |_=>False)->∃v d,K v d/\∀K':AV->List (Nat×Ob)->Prop,K' v d->(match (generalizing:=false) G p with
      | .iter s k=>match Nat.blt k s.size with
        |true=>∃c m,(c,m)=Utf8.decode s k/\K' (.tup [.bool true,.int .i64 k,.int .i32 c]) [(p,.iter s (k+m))]
        |false=>K' (.tup [.bool false]) []
      |_=>False):=λK h=>by
      generalize G p=g at h ⊢
      cases g with
      |iter s k=>
       simp only at h ⊢
       generalize Nat.blt k s.size=bb at h ⊢
       cases bb with
       |true=>obtain ⟨c,m,h1,h2⟩:=h;exact ⟨_,_,h2,λK' h'=>⟨c,m,h1,h'⟩⟩
       |false=>exact ⟨_,_,h,λK' h'=>h'⟩
      |_=>exact False.elim h
     exact key _ h
   |_=>exact False.elim h
 |extract x i=>
  simp only [vop] at h ⊢
  generalize E x=z at h ⊢
  cases z with
  |tup cs=>
   dsimp only at h ⊢
   generalize cs[i]? =l at h ⊢
   cases l with
   |none=>exact False.elim h
   |some c=>exact ⟨_,_,h,λK' h'=>h'⟩
  |_=>exact False.elim h
 |call c=>
  obtain ⟨callee,args,ats⟩:=c
  cases callee with
  |value f=>
   cases f with
   |func f=>exact bAz _ _ _ _ h
   |tmp t=>
    simp only [vop] at h ⊢
    generalize E (.tmp t)=z at h ⊢
    cases z with
    |fn f cap=>exact bAz _ _ _ _ h
    |_=>exact False.elim h
   |_=>exact False.elim h
  |invoke r m=>exact False.elim h
  |builtin b=>
   cases b with
   |len=>
    simp only [vop] at h ⊢
    generalize args.toList=l at h ⊢
    generalize ats.toList=ts at h ⊢
    match l,ts,h with
    |[x],[t],h=>exact aMz (bTh _ _) h
   |append=>
    simp only [vop] at h ⊢
    generalize args.toList=l at h ⊢
    generalize ats.toList=ts at h ⊢
    match l,ts,h with
    |[x,y],[t,t'],h=>
     obtain ⟨v,d,h1,h2⟩:=bEf _ _ _ _ h.2
     exact ⟨v,d,h1,λK' h'=>⟨h.1,h2 K' h'⟩⟩
   |copy=>
    simp only [vop] at h ⊢
    generalize args.toList=l at h ⊢
    generalize ats.toList=ts at h ⊢
    match l,ts,h with
    |[x,y],[t,t'],h=>exact bO3 _ _ _ _ h
   |min=>
    simp only [vop] at h ⊢
    generalize args.toList=l at h ⊢
    match l,h with
    |[x,y],h=>
     dsimp only at h ⊢
     generalize E x=u at h ⊢
     generalize E y=z at h ⊢
     cases u<;>cases z<;>first|exact False.elim h|exact aDk (.and _ (.ex λr=>.and _ (.pt (_,_)))) h
   |max=>
    simp only [vop] at h ⊢
    generalize args.toList=l at h ⊢
    match l,h with
    |[x,y],h=>
     dsimp only at h ⊢
     generalize E x=u at h ⊢
     generalize E y=z at h ⊢
     cases u<;>cases z<;>first|exact False.elim h|exact aDk (.and _ (.ex λr=>.and _ (.pt (_,_)))) h
   |_=>exact False.elim h
 |_=>exact False.elim h
end Go.V
