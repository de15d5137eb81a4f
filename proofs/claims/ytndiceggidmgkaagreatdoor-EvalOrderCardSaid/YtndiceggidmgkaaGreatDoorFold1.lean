/-
  Lemmas (part 1) for: What fold.Fold makes of any graph is what the document says (FoldMakes, FoldAll, FoldNames, FoldLeaves hold for every graph); no condition.
-/
import Derived.Calls
import Derived.Below
import Derived.Orders
import Derived.OwnWalk
import Derived.Laws.Rows
import Derived.Laws.CopyRow
import Derived.Laws.OwnMore
import Derived.Laws.MakeOwn
import Derived.Still
import Derived.Laws.Entries
import Derived.Deep.MidRow
import Derived.Tactics
import Derived.Laws.Small
import Derived.Laws.Strings
import Derived.Laws.BytesString
import Derived.Laws.Tables
import Derived.Great.FillDense
import Derived.Great.BuildSlice
import Derived.MapKept
import Derived.Maps.AppendAt
set_option linter.all false
namespace Go.V
open Go.RowKit
inductive AV where
  | j
  | u
  | int (k : IntKind) (n : Int)
  | bool (b : Bool)
  | str (s : ByteArray)
  | agg (cs : List AV)
  | tup (cs : List AV)
  | nils
  | ro (sz : Nat) (es : List (List AV))
  | fr (e sz : Nat) (es : List (List AV))
  | own (p off len : Nat)
  | rp (cs : List AV)
  | bptr (p c : Nat)
  | ptr (p i c : Nat)
  | fn (f : FuncId) (cap : List AV)
  | map (p : Nat)
  | iface (t : TypeId) (x : AV)
  | nili
  deriving Inhabited
inductive Ob where
  | dead
  | gone
  | box (t : TypeId) (cs : List AV)
  | row (fz : Bool) (e sz : Nat) (es : List (List AV))
  | kv (l : List (ByteArray × AV))
  | iter (s : ByteArray) (k : Nat)
  deriving Inhabited
def Ob.sz : Ob → Option (Option (Nat × Nat))
  | .dead => none
  | .gone => some none
  | .box _ _ => some (some (0, 0))
  | .row _ _ sz es => some (some (sz, es.length))
  | .kv _ => some (some (0, 0))
  | .iter _ _ => some (some (0, 0))
def getOb : List Ob → Nat → Ob
  | [], _ => .dead
  | o :: _, 0 => o
  | _ :: r, p + 1 => getOb r p
def setOb : List Ob → Nat → Ob → List Ob
  | [], 0, x => [x]
  | [], p + 1, x => .dead :: setOb [] p x
  | _ :: r, 0, x => x :: r
  | o :: r, p + 1, x => o :: setOb r p x
structure Hp where
  h : List Ob
  β : Nat → Nat
  κ : Nat → Nat
def Hp.at (H : Hp) (p : Nat) : Option (Option (Nat × Nat)) := (getOb H.h p).sz
def H0 : Hp := ⟨[], fun _ => 0, fun _ => 0⟩
def One (vs : List Value) : Prop := ∀ u ∈ vs, u.oneCell' = true
mutual
def RepV (S : Nat → Prop) (H : Hp) (w : World) : AV → Value → Prop
  | .j, _ => True
  | .u, v => v = .tuple #[]
  | .int k n, v => v = .int k n
  | .bool b, v => v = .bool b
  | .str s, v => v = .string s
  | .agg cs, v => ∃ vs : List Value, v = .agg vs.toArray ∧ One vs ∧ RepL S H w cs vs
  | .tup cs, v => ∃ vs : List Value, v = .tuple vs.toArray ∧ RepL S H w cs vs
  | .nils, v => v = .slice none 0 0
  | .ro sz es, v => ∃ A c, v = .slice A es.length c ∧ es.length ≤ c ∧ c ≤ maxLen ∧ (es = [] ∨ ∃ a : Addr, A = some a ∧ S a.block ∧ a.block < w.heap.size ∧
      ∃ vss : List (List Value), RepLL S w es vss ∧ (∀ vs ∈ vss, vs.length = sz ∧ One vs) ∧ ∀ i vs, vss[i]? = some vs → ∀ k u, vs[k]? = some u → w.cell? (a.add (i * sz + k)) = some u)
  | .fr _ _ _, _ => False
  | .own p off len, v => v.oneCell' = true ∧ H.at p ≠ none ∧ ∀ sz, H.at p = some (some sz) → v = .slice (some ⟨H.β p, off * sz.1, none⟩) len (H.κ p - off) ∧ off + len ≤ sz.2
  | .rp cs, v => ∃ a : Addr, v = .pointer (some a) ∧ S a.block ∧ a.block < w.heap.size ∧ ∃ vs : List Value, RepL S H0 w cs vs ∧ One vs ∧ ∀ k u, vs[k]? = some u → w.cell? (a.add k) = some u
  | .bptr p c, v => v.oneCell' = true ∧ H.at p ≠ none ∧ ∀ sz, H.at p = some (some sz) → v = .pointer (some ⟨H.β p, c, none⟩)
  | .ptr p i c, v => v.oneCell' = true ∧ H.at p ≠ none ∧ ∀ sz, H.at p = some (some sz) → v = .pointer (some ⟨H.β p, i * sz.1 + c, none⟩)
  | .fn f cap, v => ∃ vs : List Value, v = .func (.func f) #[] vs.toArray ∧ RepL S H w cap vs
  | .map p, v => v.oneCell' = true ∧ H.at p ≠ none ∧ ∀ sz, H.at p = some (some sz) → v = .map (some (H.β p))
  | .iface t x, v => ∃ u, v = .iface t u ∧ RepV S H w x u
  | .nili, v => v = .nilIface
def RepL (S : Nat → Prop) (H : Hp) (w : World) : List AV → List Value → Prop
  | [], vs => vs = []
  | x :: xs, vs => ∃ v r, vs = v :: r ∧ RepV S H w x v ∧ RepL S H w xs r
def RepLL (S : Nat → Prop) (w : World) : List (List AV) → List (List Value) → Prop
  | [], vs => vs = []
  | x :: xs, vs => ∃ v r, vs = v :: r ∧ RepL S H0 w x v ∧ RepLL S w xs r
end
theorem at_H0 (p : Nat) : H0.at p = none := rfl
structure Later (S : Nat → Prop) (H : Hp) (w : World) (S' : Nat → Prop) (H' : Hp) (w' : World) : Prop where
  blk : ∀ b, S b → b < w.heap.size → S' b ∧ w'.heap[b]? = w.heap[b]?
  size : w.heap.size ≤ w'.heap.size
  ob : ∀ p, H.at p ≠ none → H'.at p ≠ none ∧ ∀ sz, H'.at p = some (some sz) → H.at p = some (some sz) ∧ H'.β p = H.β p ∧ H'.κ p = H.κ p
theorem Later.zero {S S' H H' w w'} (L : Later S H w S' H' w') : Later S H0 w S' H0 w' :=
  ⟨L.blk, L.size, fun p h => absurd (at_H0 p) h⟩
theorem Later.cell {S S' H H' w w'} (L : Later S H w S' H' w') {a : Addr} (hs : S a.block) (hb : a.block < w.heap.size) {k : Nat} {u : Value}
    (h : w.cell? (a.add k) = some u) : w'.cell? (a.add k) = some u := by
  have e := (L.blk a.block hs hb).2
  have : (a.add k).block = a.block := by unfold Addr.add; split <;> rfl
  rw [World.cell?_of_block (w := w) (by rw [this]; exact e)]; exact h
mutual
theorem RepV.later {S S' H H' w w'} (L : Later S H w S' H' w') : ∀ (x : AV) (v : Value), RepV S H w x v → RepV S' H' w' x v
  | .j, _, _ => by simp [RepV]
  | .u, _, h | .int _ _, _, h | .bool _, _, h | .str _, _, h | .nils, _, h | .nili, _, h => by simpa [RepV] using h
  | .fr _ _ _, _, h => by simp [RepV] at h
  | .agg cs, v, h => by
    simp only [RepV] at h ⊢
    obtain ⟨vs, e, h1, hl⟩ := h
    exact ⟨vs, e, h1, RepL.later L cs vs hl⟩
  | .tup cs, v, h | .fn _ cs, v, h => by
    simp only [RepV] at h ⊢
    obtain ⟨vs, e, hl⟩ := h
    exact ⟨vs, e, RepL.later L cs vs hl⟩
  | .ro sz es, v, h => by
    simp only [RepV] at h ⊢
    obtain ⟨A, c, e, hc, hm, h⟩ := h
    refine ⟨A, c, e, hc, hm, ?_⟩
    rcases h with h | ⟨a, ea, hs, hb, vss, hl, hz, hcell⟩
    · exact .inl h
    · exact .inr ⟨a, ea, (L.blk _ hs hb).1, Nat.lt_of_lt_of_le hb L.size, vss, RepLL.later L.zero es vss hl, hz, fun i vs hi k u hk => L.cell hs hb (hcell i vs hi k u hk)⟩
  | .own p off len, v, h => by
    simp only [RepV] at h ⊢
    obtain ⟨hn, hob⟩ := L.ob p h.2.1
    refine ⟨h.1, hn, fun sz hp => ?_⟩
    obtain ⟨e, eb, ek⟩ := hob sz hp
    rw [eb, ek]; exact h.2.2 sz e
  | .rp cs, v, h => by
    simp only [RepV] at h ⊢
    obtain ⟨a, e, hs, hb, vs, hl, h1, hcell⟩ := h
    exact ⟨a, e, (L.blk _ hs hb).1, Nat.lt_of_lt_of_le hb L.size, vs, RepL.later L.zero cs vs hl, h1, fun k u hk => L.cell hs hb (hcell k u hk)⟩
  | .ptr p i c, v, h => by
    simp only [RepV] at h ⊢
    obtain ⟨hn, hob⟩ := L.ob p h.2.1
    refine ⟨h.1, hn, fun sz hp => ?_⟩
    obtain ⟨e, eb, ek⟩ := hob sz hp
    rw [eb]; exact h.2.2 sz e
  | .bptr p c, v, h | .map p, v, h => by
    simp only [RepV] at h ⊢
    obtain ⟨hn, hob⟩ := L.ob p h.2.1
    refine ⟨h.1, hn, fun sz hp => ?_⟩
    obtain ⟨e, eb, ek⟩ := hob sz hp
    rw [eb]; exact h.2.2 sz e
  | .iface t x, v, h => by
    simp only [RepV] at h ⊢
    obtain ⟨u, e, hx⟩ := h
    exact ⟨u, e, RepV.later L x u hx⟩
theorem RepL.later {S S' H H' w w'} (L : Later S H w S' H' w') : ∀ (xs : List AV) (vs : List Value), RepL S H w xs vs → RepL S' H' w' xs vs
  | [], vs, h => by simpa [RepL] using h
  | x :: xs, vs, h => by
    simp only [RepL] at h ⊢
    obtain ⟨v, r, e, hx, hr⟩ := h
    exact ⟨v, r, e, RepV.later L x v hx, RepL.later L xs r hr⟩
theorem RepLL.later {S S' w w'} (L : Later S H0 w S' H0 w') : ∀ (xs : List (List AV)) (vs : List (List Value)), RepLL S w xs vs → RepLL S' w' xs vs
  | [], vs, h => by simpa [RepLL] using h
  | x :: xs, vs, h => by
    simp only [RepLL] at h ⊢
    obtain ⟨v, r, e, hx, hr⟩ := h
    exact ⟨v, r, e, RepL.later L x v hx, RepLL.later L xs r hr⟩
end
end Go.V
namespace Go.V
inductive TK where
  | bad | int (k : IntKind) | bool | str | slice (e : TypeId) | ptr (e : TypeId) | strc (fs : List (Nat × Nat × Bool)) | arr (n : Nat) (e : TypeId) | map (e : TypeId) | fn | iface | tup
  deriving Inhabited
structure TI where
  k : TK
  size : Nat
  bytes : Nat
  zv : Value
  csz : List Nat
  deriving Inhabited
abbrev Tab := List (Nat × TI)
def lk {α : Type} (d : α) : List (Nat × α) → Nat → α
  | [], _ => d
  | (k, v) :: r, t => match Nat.beq k t with | true => v | false => lk d r t
def Tab.ti (T : Tab) (t : Nat) : TI := lk ⟨.bad, 0, 0, undef, []⟩ T t
structure St where
  t : List (Nat × AV)
  h : List Ob
def St.get (st : St) (t : Nat) : AV := lk .j st.t t
def St.put (st : St) : Option Tmp → AV → St
  | some d, v => ⟨(d, v) :: st.t, st.h⟩
  | none, _ => st
def cav : Value → AV
  | .int k n => .int k n
  | .bool b => .bool b
  | .string s => .str s
  | .nilIface => .nili
  | .slice none 0 0 => .nils
  | _ => .j
def TI.zero (ti : TI) : List AV := ti.zv.cells.toList.map cav
def Tab.sl (T : Tab) (t : Nat) (K : Nat → TI → Prop) : Prop :=
  match (T.ti t).k with
  | .slice e => match (T.ti e).k with
    | .bad => False
    | _ => K e (T.ti e)
  | _ => False
abbrev Gl := List (Nat × List AV)
def gcell : Gl → Nat → AV
  | [], _ => .j
  | (k, cs) :: r, g => match Nat.beq k g with | true => .rp cs | false => gcell r g
def St.ev (gl : Gl) (st : St) : Operand → AV
  | .tmp t => st.get t
  | .const v => cav v
  | .global g => gcell gl g
  | .func f => .fn f []
def norm0 (G : Nat → Ob) : AV → AV
  | .own p off len => match G p with
    | .row _ _ sz es => .ro sz ((es.drop off).take len)
    | _ => .j
  | .bptr _ _ => .j
  | .ptr _ _ _ => .j
  | .map _ => .j
  | .agg _ => .j
  | .tup _ => .j
  | .fn _ (_ :: _) => .j
  | .iface _ _ => .j
  | x => x
def norm1 (G : Nat → Ob) (sz : Nat) : AV → AV
  | .nils => .ro sz []
  | .own p off len => match G p with
    | .row _ _ sz es => .ro sz ((es.drop off).take len)
    | _ => .j
  | .bptr p c => match G p with
    | .box _ cs => .rp ((cs.drop c).map (norm0 G))
    | _ => .j
  | .ptr _ _ _ => .j
  | .map _ => .j
  | .agg _ => .j
  | .tup _ => .j
  | .fn _ _ => .j
  | .iface _ _ => .j
  | x => x
def normL (G : Nat → Ob) : List Nat → List AV → List AV
  | _, [] => []
  | [], x :: xs => norm1 G 0 x :: normL G [] xs
  | s :: ss, x :: xs => norm1 G s x :: normL G ss xs
def norm (G : Nat → Ob) (ti : TI) : AV → AV
  | .agg cs => .agg (normL G ti.csz cs)
  | .fn f cs => .fn f (normL G [] cs)
  | .tup _ => .j
  | x => norm1 G (ti.csz.headD 0) x
def cells : AV → List AV
  | .agg cs => cs
  | .j | .u | .tup _ | .fr _ _ _ => []
  | x => [x]
def chk (b : Bool) (K : Prop) : Prop := match b with | true => K | false => False
def szOK (n : Nat) (x : AV) : Bool := Nat.beq (cells x).length n && !(Nat.beq n 0)
def TI.ag (ti : TI) : Bool := match ti.k with | .strc _ => true | .arr _ _ => true | _ => false
def lent0 : AV → List Nat
  | .own p _ _ => [p]
  | _ => []
def lent0L : List AV → List Nat
  | [] => []
  | x :: xs => lent0 x ++ lent0L xs
def lent1 (G : Nat → Ob) : AV → List Nat
  | .bptr p _ => match G p with
    | .box _ cs => p :: lent0L cs
    | _ => []
  | x => lent0 x
def lent1L (G : Nat → Ob) : List AV → List Nat
  | [] => []
  | x :: xs => lent1 G x ++ lent1L G xs
def lent (G : Nat → Ob) : AV → List Nat
  | .agg cs => lent1L G cs
  | .fn _ cs => lent1L G cs
  | x => lent1 G x
def lentL (G : Nat → Ob) : List AV → List Nat
  | [] => []
  | x :: xs => lent G x ++ lentL G xs
def frzP (G : Nat → Ob) : List Nat → List (Nat × Ob)
  | [] => []
  | p :: r => match G p with
    | .row _ e sz es => (p, .row true e sz es) :: frzP G r
    | _ => frzP G r
def anyBox (G : Nat → Ob) : List Nat → Bool
  | [] => false
  | p :: r => match G p with
    | .box _ _ => true
    | _ => anyBox G r
def setAll (h : List Ob) : List (Nat × Ob) → List Ob
  | [] => h
  | (p, o) :: r => setAll (setOb h p o) r
def renP : List Nat → Nat → Nat → Option Nat
  | [], _, _ => none
  | q :: r, i, p => match Nat.beq q p with | true => some i | false => renP r (i + 1) p
mutual
def ren (ps : List Nat) : AV → AV
  | .own q off len => match renP ps 0 q with | some p => .own p off len | none => .j
  | .ptr q i c => match renP ps 0 q with | some p => .ptr p i c | none => .j
  | .bptr q c => match renP ps 0 q with | some p => .bptr p c | none => .j
  | .map q => match renP ps 0 q with | some p => .map p | none => .j
  | .agg cs => .agg (renL ps cs)
  | .tup cs => .tup (renL ps cs)
  | .fn f cs => .fn f (renL ps cs)
  | .iface t x => .iface t (ren ps x)
  | x => x
def renL (ps : List Nat) : List AV → List AV
  | [] => []
  | x :: xs => ren ps x :: renL ps xs
end
def renOb (ps : List Nat) : Ob → Ob
  | .box t cs => .box t (renL ps cs)
  | .kv l => .kv (l.map fun kx => (kx.1, ren ps kx.2))
  | o => o
def keepT (st : St) (ps : List Nat) : List Nat → List (Nat × AV)
  | [] => []
  | k :: r => (k, ren ps (st.get k)) :: keepT st ps r
def keepH (h : List Ob) (ps : List Nat) : List Nat → List Ob
  | [] => []
  | p :: r => renOb ps (getOb h p) :: keepH h ps r
def St.keep (st : St) (live ps : List Nat) : St := ⟨keepT st ps live, keepH st.h ps ps⟩
mutual
def roQ : AV → Option Bool
  | .ro _ [] => some false
  | .ro _ _ => some true
  | .agg cs => roQL cs
  | .tup cs => roQL cs
  | .fn _ cs => roQL cs
  | .iface _ x => roQ x
  | .rp _ => some true
  | .fr _ _ _ => none
  | _ => some false
def roQL : List AV → Option Bool
  | [] => some false
  | x :: xs => match roQ x with
    | some true => some true
    | some false => roQL xs
    | none => match roQL xs with
      | some true => some true
      | _ => none
end
mutual
def Flat : AV → Prop
  | .ro _ es => es = []
  | .agg cs => FlatL cs
  | .tup cs => FlatL cs
  | .fn _ cs => FlatL cs
  | .iface _ x => Flat x
  | .rp _ => False
  | .fr _ _ es => ∀ cs ∈ es, FlatL cs
  | _ => True
def FlatL : List AV → Prop
  | [] => True
  | x :: xs => Flat x ∧ FlatL xs
end
mutual
def absorb (n : Nat) : AV → AV × List (Nat × Ob)
  | .fr e sz es => (.own n 0 es.length, [(n, .row false e sz es)])
  | .agg cs => match absorbL n cs with | (cs', d) => (.agg cs', d)
  | .tup cs => match absorbL n cs with | (cs', d) => (.tup cs', d)
  | x => (x, [])
def absorbL (n : Nat) : List AV → List AV × List (Nat × Ob)
  | [] => ([], [])
  | x :: xs => match absorb n x with
    | (x', d) => match absorbL (n + d.length) xs with
      | (xs', d') => (x' :: xs', d ++ d')
end
def ldc (ti : TI) (cs : List AV) (K : AV → Prop) : Prop :=
  match ti.k with
  | .bad => False
  | _ => match ti.ag with
    | true => chk (Nat.ble ti.size cs.length) (K (.agg (cs.take ti.size)))
    | false => match cs with
      | x :: _ => K x
      | [] => False
def over : List AV → Nat → List AV → List AV
  | cs, 0, [] => cs
  | [], _, _ => []
  | _ :: cs, 0, x :: xs => x :: over cs 0 xs
  | c :: cs, n + 1, xs => c :: over cs n xs
def veq (dr neg cst : Bool) (ti : TI) (x y : AV) (K : AV → Prop) : Prop :=
  match ti.k with
  | .bool => match x, y with
    | .bool a, .bool b => ∃ r, r = ((a == b) != neg) ∧ K (.bool r)
    | _, _ => False
  | .iface => match cst with
    | true => match x, y with
      | .nili, .nili => K (.bool (!neg))
      | .iface _ _, .nili => K (.bool neg)
      | _, _ => False
    | false => False
  | .slice _ => match y with
    | .nils => match x with
      | .nils => K (.bool (!neg))
      | .ro _ es => match es with
        | [] => match dr with
          | true => False
          | false => K (.bool true) ∧ K (.bool false)
        | _ :: _ => K (.bool neg)
      | _ => False
    | _ => False
  | _ => False
def ikn : IntKind → Nat
  | .i8 => 0 | .i16 => 1 | .i32 => 2 | .i64 => 3 | .u8 => 4 | .u16 => 5 | .u32 => 6 | .u64 => 7
def ikeq (k k' : IntKind) : Bool := Nat.beq (ikn k) (ikn k')
def vbin (dr : Bool) (op : BinOp) (cst : Bool) (ti : TI) (x y : AV) (K : AV → Prop) : Prop :=
  match op, x, y with
  | .shl, .int k a, .int _ b => 0 ≤ b ∧ ∃ r, r = k.wrap (a * 2 ^ (min b.toNat k.bits)) ∧ K (.int k r)
  | .shr, .int k a, .int _ b => 0 ≤ b ∧ ∃ r, r = a.fdiv (2 ^ (min b.toNat k.bits)) ∧ K (.int k r)
  | .add, .int k a, .int k' b => chk (ikeq k k') <| ∃ r, r = k.wrap (a + b) ∧ K (.int k r)
  | .sub, .int k a, .int k' b => chk (ikeq k k') <| ∃ r, r = k.wrap (a - b) ∧ K (.int k r)
  | .mul, .int k a, .int k' b => chk (ikeq k k') <| ∃ r, r = k.wrap (a * b) ∧ K (.int k r)
  | .quo, .int k a, .int k' b => chk (ikeq k k') <| b ≠ 0 ∧ ∃ r, r = k.wrap (a.tdiv b) ∧ K (.int k r)
  | .rem, .int k a, .int k' b => chk (ikeq k k') <| b ≠ 0 ∧ ∃ r, r = a.tmod b ∧ K (.int k r)
  | .eql, .int k a, .int k' b => chk (ikeq k k') <| K (.bool (decide (a = b)))
  | .neq, .int k a, .int k' b => chk (ikeq k k') <| K (.bool (!decide (a = b)))
  | .lss, .int k a, .int k' b => chk (ikeq k k') <| K (.bool (decide (a < b)))
  | .leq, .int k a, .int k' b => chk (ikeq k k') <| K (.bool (decide (a ≤ b)))
  | .gtr, .int k a, .int k' b => chk (ikeq k k') <| K (.bool (decide (b < a)))
  | .geq, .int k a, .int k' b => chk (ikeq k k') <| K (.bool (decide (b ≤ a)))
  | .or, .int k a, .int k' b => chk (ikeq k k') <| 0 ≤ a ∧ a < 2 ^ k.bits ∧ 0 ≤ b ∧ b < 2 ^ k.bits ∧ ∃ r, r = k.wrap ((a.toNat ||| b.toNat : Nat) : Int) ∧ K (.int k r)
  | .and, .int k a, .int k' b => chk (ikeq k k') <| 0 ≤ a ∧ a < 2 ^ k.bits ∧ 0 ≤ b ∧ b < 2 ^ k.bits ∧ ∃ r, r = k.wrap ((a.toNat &&& b.toNat : Nat) : Int) ∧ K (.int k r)
  | .add, .str a, .str b => a.size + b.size ≤ 9223372036854775807 ∧ K (.str (a ++ b))
  | .eql, .str a, .str b => K (.bool (decide (a = b)))
  | .neq, .str a, .str b => K (.bool (!decide (a = b)))
  | .lss, .str a, .str b => K (.bool (Op.bytesLess a.toList b.toList))
  | .gtr, .str a, .str b => K (.bool (!(Op.bytesLess a.toList b.toList || a.toList == b.toList)))
  | .eql, x, y => veq dr false cst ti x y K
  | .neq, x, y => veq dr true cst ti x y K
  | _, _, _ => False
end Go.V
namespace Go.V
open Go.RowKit
def RowAt (S : Nat → Prop) (w : World) (b cap e sz : Nat) (es : List (List AV)) : Prop :=
  ∃ (cur : Array Value) (vss : List (List Value)), w.heap[b]? = some (.cells cur e (0, 0)) ∧ cur.size = cap * sz ∧ 0 < sz ∧ es.length ≤ cap ∧ cap ≤ maxLen ∧
    RepLL S w es vss ∧ (∀ vs ∈ vss, vs.length = sz ∧ One vs) ∧ cur.toList.take (es.length * sz) = vss.flatten
structure Base where
  w0 : World
  M : Nat → Prop
  S0 : Nat → Prop
  pins : List (Nat × Nat × Option (Option (Nat × Nat)))
def RepKV (S : Nat → Prop) (H : Hp) (w : World) : List (ByteArray × AV) → List MapEntry → Prop
  | [], es => es = []
  | (k, x) :: r, es => ∃ (v : Value) (b : Nat) (es' : List MapEntry), es = ⟨.string k, v, b⟩ :: es' ∧ RepV S H w x v ∧ RepKV S H w r es'
structure HeapOK (S : Nat → Prop) (B : Base) (H : Hp) (w : World) : Prop where
  sb : ∀ b, S b → b < w.heap.size
  row : ∀ p fz e sz es, getOb H.h p = .row fz e sz es → RowAt S w (H.β p) (H.κ p) e sz es ∧ (S (H.β p) ↔ fz = true)
  box : ∀ p t cs, getOb H.h p = .box t cs → ∃ vs : List Value, w.heap[H.β p]? = some (.cells vs.toArray t (0, 0)) ∧ One vs ∧ RepL S H w cs vs ∧ ¬ S (H.β p)
  kv : ∀ p l, getOb H.h p = .kv l → ∃ (es : Array MapEntry) (c : Nat), w.heap[H.β p]? = some (.map es c) ∧ RepKV S H w l es.toList ∧ ¬ S (H.β p)
  inj : ∀ p q s s', H.at p = some (some s) → H.at q = some (some s') → H.β p = H.β q → ¬ S (H.β p) → p = q
  it : ∀ p x k, getOb H.h p = .iter x k → w.heap[H.β p]? = some (.stringIter x k) ∧ ¬ S (H.β p)
  mine : ∀ p s, H.at p = some (some s) → ¬ S (H.β p) → B.w0.heap.size ≤ H.β p ∨ B.M (H.β p)
structure Kept (B : Base) (w : World) : Prop where
  os : w.os = B.w0.os
  tape : w.tape = B.w0.tape
  output : w.output = B.w0.output
  size : B.w0.heap.size ≤ w.heap.size
  block : ∀ k, k < B.w0.heap.size → ¬ B.M k → w.heap[k]? = B.w0.heap[k]?
def GlOK (S : Nat → Prop) (w : World) (gl : Gl) : Prop := ∀ g cs, (g, cs) ∈ gl → RepV S H0 w (.rp cs) (.pointer (some ⟨g, 0, none⟩)) ∧ ∃ c e f, w.heap[g]? = some (.cells c e f) ∧ c.size = cs.length
mutual
def RepF (S : Nat → Prop) (B : Nat) (w : World) : AV → Value → List (Nat × Nat) → Prop
  | .fr e sz es, v, F => ∃ b cap, F = [(b, cap)] ∧ v = .slice (some ⟨b, 0, none⟩) es.length cap ∧ B ≤ b ∧ RowAt S w b cap e sz es
  | .agg cs, v, F => ∃ vs : List Value, v = .agg vs.toArray ∧ One vs ∧ RepFL S B w cs vs F
  | .tup cs, v, F => ∃ vs : List Value, v = .tuple vs.toArray ∧ RepFL S B w cs vs F
  | x, v, F => F = [] ∧ RepV S H0 w x v
def RepFL (S : Nat → Prop) (B : Nat) (w : World) : List AV → List Value → List (Nat × Nat) → Prop
  | [], vs, F => vs = [] ∧ F = []
  | x :: xs, vs, F => ∃ v r F1 F2, vs = v :: r ∧ F = F1 ++ F2 ∧ RepF S B w x v F1 ∧ RepFL S B w xs r F2
end
def ResOK (S : Nat → Prop) (B : Nat) (w : World) (x : AV) (v : Value) : Prop :=
  ∃ (S' : Nat → Prop) (F : List (Nat × Nat)), RepF S' B w x v F ∧ (F.map (·.1)).Nodup ∧ (∀ q ∈ F, ¬ S' q.1) ∧ ∀ b, S' b → b < w.heap.size ∧ (S b ∨ B ≤ b)
def Gets (P : Program) (f : FuncId) (args : Array Value) (w : World) (R : Value → World → Prop) : Prop :=
  ((callFunc f args).run P w = .ok (.enter f args) w ∧ Calls P f args w fun e w' => ∃ v, e = .returned v ∧ R v w') ∨
  (∃ v w', (callFunc f args).run P w = .ok (.value v) w' ∧ R v w') ∨
  (∃ row aS w1, (callFunc f args).run P w = .ok (.row row aS) w1 ∧ Rows P row aS w1 R)
theorem Gets.mono {P : Program} {f : FuncId} {args : Array Value} {w : World} {R R' : Value → World → Prop} (h : Gets P f args w R) (hr : ∀ v w', R v w' → R' v w') : Gets P f args w R' := by
  rcases h with ⟨h1, h2⟩ | ⟨v, w', h1, h2⟩ | ⟨row, aS, w1, h1, h2⟩
  · exact .inl ⟨h1, h2.mono fun _ _ ⟨v, e, r⟩ => ⟨v, e, hr _ _ r⟩⟩
  · exact .inr (.inl ⟨v, w', h1, hr _ _ h2⟩)
  · exact .inr (.inr ⟨row, aS, w1, h1, h2.mono hr⟩)
def VCall (P : Program) (gl : Gl) (f : FuncId) (args : List AV) (R : AV → Prop) : Prop :=
  ∀ (S : Nat → Prop) (w : World) (vs : List Value), (∀ b, S b → b < w.heap.size) → GlOK S w gl → RepL S H0 w args vs →
    Gets P f vs.toArray w fun v w' => ∃ x, R x ∧ ResOK S w.heap.size w' x v ∧ Below w.heap.size w w'
def Pin (B : Base) (H : Hp) : Prop := ∀ i q, B.pins[i]? = some q → H.at i ≠ none ∧ ∀ s, H.at i = some (some s) → H.β i = q.1 ∧ H.κ i = q.2.1 ∧ q.2.2 = some (some s)
def blocksOf (S : Nat → Prop) (H : Hp) (b : Nat) : Prop := ∃ p s, H.at p = some (some s) ∧ b = H.β p ∧ ¬ S b
def baseH (S : Nat → Prop) (H : Hp) (w : World) : Base := ⟨w, blocksOf S H, S, (List.range H.h.length).map fun i => (H.β i, H.κ i, H.at i)⟩
def VCallH (P : Program) (gl : Gl) (f : FuncId) (args : List AV) (obs : List Ob) (R : AV → List Ob → Prop) : Prop :=
  ∀ (S : Nat → Prop) (H : Hp) (w : World) (vs : List Value), H.h = obs → (∀ i, i < obs.length → H.at i ≠ none) → HeapOK S (baseH S H w) H w → GlOK S w gl → RepL S H w args vs →
    Gets P f vs.toArray w fun v w' => ∃ x S' H', R x H'.h ∧ HeapOK S' (baseH S H w) H' w' ∧ Kept (baseH S H w) w' ∧ (∀ b, S b → S' b) ∧ (∀ b, S' b → S b ∨ w.heap.size ≤ b ∨ blocksOf S H b) ∧
      Pin (baseH S H w) H' ∧ RepV S' H' w' x v
theorem VCallH.mono {P : Program} {gl : Gl} {f : FuncId} {args : List AV} {obs : List Ob} {R R' : AV → List Ob → Prop} (h : VCallH P gl f args obs R) (hr : ∀ x h', R x h' → R' x h') : VCallH P gl f args obs R' :=
  fun S H w vs h1 h2 h3 h4 h5 => (h S H w vs h1 h2 h3 h4 h5).mono fun _ _ ⟨x, S', H', r, rest⟩ => ⟨x, S', H', hr x _ r, rest⟩
theorem VCall.mono {P : Program} {gl : Gl} {f : FuncId} {args : List AV} {R R' : AV → Prop} (h : VCall P gl f args R) (hr : ∀ x, R x → R' x) : VCall P gl f args R' :=
  fun S w vs h1 h2 h3 => (h S w vs h1 h2 h3).mono fun _ _ ⟨x, r, rest⟩ => ⟨x, hr x r, rest⟩
end Go.V
namespace Go.V
def isc : Operand → Bool | .const _ => true | _ => false
def putParts (fs : List (Nat × Nat × Bool)) : List AV → List (Nat × AV) → List AV
  | cs, [] => cs
  | cs, (i, x) :: r => match fs[i]? with
    | some (off, _, _) => putParts fs (over cs off (cells x)) r
    | none => []
def partsOK (fs : List (Nat × Nat × Bool)) (len : Nat) : List (Nat × AV) → Bool
  | [] => true
  | (i, x) :: r => match fs[i]? with
    | some (off, n, _) => szOK n x && Nat.ble (off + n) len && partsOK fs len r
    | none => false
def litElems (G : Nat → Ob) (ti : TI) : Nat → List (Nat × AV) → Option (List (List AV))
  | _, [] => some []
  | i, (k, x) :: r => match Nat.beq k i && szOK ti.size x with
    | true => (litElems G ti (i + 1) r).map (((cells x).map (norm0 G)) :: ·)
    | false => none
def lent0P : List (Nat × AV) → List Nat
  | [] => []
  | (_, x) :: r => lent0L (cells x) ++ lent0P r
def TI.el (ti : TI) : Nat := match ti.k with | .slice e => e | .ptr e => e | .arr _ e => e | .map e => e | _ => 0
def liveB (G : Nat → Ob) (p : Nat) : Bool := match G p with | .dead => false | .gone => false | _ => true
def bnd (x : Option AV) (d : Int) (K : Int → Prop) : Prop :=
  match x with
  | none => K d
  | some (.int _ n) => K n
  | some _ => False
def vslice (T : Tab) (t : Nat) (G : Nat → Ob) (x : AV) (lo hi : Option AV) (K : AV → Prop) : Prop :=
  match (T.ti t).k with
  | .str => match x with
    | .str s => bnd lo 0 fun l => bnd hi s.size fun u => 0 ≤ l ∧ l ≤ u ∧ u ≤ s.size ∧ ∃ r, r = s.extract l.toNat u.toNat ∧ K (.str r)
    | _ => False
  | _ => T.sl t fun _ ti => match x with
    | .ro sz es => chk (Nat.beq sz ti.size) <| bnd lo 0 fun l => bnd hi es.length fun u => 0 ≤ l ∧ l ≤ u ∧ u ≤ es.length ∧ ∃ r, r = (es.drop l.toNat).take (u.toNat - l.toNat) ∧ K (.ro sz r)
    | .nils => bnd lo 0 fun l => bnd hi 0 fun u => l = 0 ∧ u = 0 ∧ K .nils
    | .own p off len => match G p with
      | .row _ _ sz _ => chk (Nat.beq sz ti.size) <| bnd lo 0 fun l => bnd hi len fun u => 0 ≤ l ∧ l ≤ u ∧ u ≤ len ∧ (l = 0 ∨ l < u) ∧ ∃ o' n' : Nat, (o' : Int) = off + l ∧ (n' : Int) = u - l ∧ K (.own p o' n')
      | _ => False
    | _ => False
def viaddr (T : Tab) (t : Nat) (G : Nat → Ob) (x : AV) (i : Int) (K : AV → Prop) : Prop :=
  match (T.ti t).k with
  | .arr m e => match (T.ti e).k with
    | .bad => False
    | _ => match x with
      | .rp cs => ∃ j : Nat, i = j ∧ j < m ∧ K (.rp (cs.drop (j * (T.ti e).size)))
      | .bptr p c => chk (liveB G p) <| ∃ j : Nat, i = j ∧ j < m ∧ K (.bptr p (c + j * (T.ti e).size))
      | _ => False
  | _ => T.sl t fun _ ti => match x with
  | .ro sz es => chk (Nat.beq sz ti.size) <| ∃ (n : Nat) (cs : List AV), i = n ∧ es[n]? = some cs ∧ K (.rp cs)
  | .own p off len => match G p with
    | .row _ _ sz _ => chk (Nat.beq sz ti.size) <| ∃ n : Nat, i = n ∧ n < len ∧ K (.ptr p (off + n) 0)
    | _ => False
  | _ => False
def vload (ti : TI) (G : Nat → Ob) (x : AV) (K : AV → Prop) : Prop :=
  match x with
  | .rp cs => ldc ti cs K
  | .bptr p c => match G p with
    | .box _ cs => ldc ti (cs.drop c) K
    | _ => False
  | .ptr p i c => match G p with
    | .row _ _ _ es => ∃ cs, es[i]? = some cs ∧ ldc ti (cs.drop c) K
    | _ => False
  | _ => False
def vstore (ti : TI) (G : Nat → Ob) (x y : AV) (K : List (Nat × Ob) → Prop) : Prop :=
  match x with
  | .bptr p c => match G p with
    | .box t cs => chk (szOK ti.size y && Nat.ble (c + ti.size) cs.length) <| K [(p, .box t (over cs c (cells y)))]
    | _ => False
  | .ptr p i c => match G p with
    | .row false e sz es => chk (szOK ti.size y && !((lent0L (cells y)).any (Nat.beq p))) <| chk (Nat.ble (c + ti.size) sz) <| ∃ cs, es[i]? = some cs ∧ K (frzP G (lent0L (cells y)) ++ [(p, .row false e sz (es.set i (over cs c ((cells y).map (norm0 G)))))])
    | _ => False
  | _ => False
def vappend (T : Tab) (t : Nat) (G : Nat → Ob) (n : Nat) (x y : AV) (K : AV → List (Nat × Ob) → Prop) : Prop :=
  T.sl t fun e ti => match norm1 G ti.size y with
  | .ro sz new => chk (Nat.beq sz ti.size && Nat.blt 0 ti.size && Nat.blt 0 ti.bytes) <| match x with
    | .nils => new.length * ti.bytes ≤ 140737488355328 ∧ new ≠ [] ∧ K (.own n 0 new.length) [(n, .row false e ti.size new)]
    | .own p 0 len => match G p with
      | .row false e' sz' es => chk (Nat.beq e' e && Nat.beq sz' ti.size) <| len ≤ es.length ∧ (len + new.length) * ti.bytes ≤ 140737488355328 ∧
          ∃ r, r = es.take len ++ new ∧ K (.own n 0 r.length) [(p, .gone), (n, .row false e ti.size r)]
      | _ => False
    | _ => False
  | _ => False
def vcopy (T : Tab) (t : Nat) (G : Nat → Ob) (x y : AV) (K : AV → List (Nat × Ob) → Prop) : Prop :=
  T.sl t fun _ ti => match norm1 G ti.size y with
  | .ro sz new => chk (Nat.beq sz 1 && Nat.beq ti.size 1 && Nat.blt 0 new.length) <| match x with
    | .own p off len => match G p with
      | .row false e' sz' es => chk (Nat.beq sz' 1) <| ∃ m : Nat, m = min new.length len ∧ off + m ≤ es.length ∧ ∃ r, r = es.take off ++ new.take m ++ es.drop (off + m) ∧ K (.int .i64 m) [(p, .row false e' 1 r)]
      | _ => False
    | _ => False
  | _ => False
def vlen (ti : TI) (G : Nat → Ob) (x : AV) (K : AV → Prop) : Prop :=
  match ti.k with
  | .str => match x with
    | .str s => K (.int .i64 s.size)
    | _ => False
  | .slice _ => match x with
    | .ro _ es => K (.int .i64 es.length)
    | .nils => K (.int .i64 0)
    | .own p _ len => chk (liveB G p) (K (.int .i64 len))
    | _ => False
  | _ => False
def findK : List (ByteArray × AV) → ByteArray → Option AV
  | [], _ => none
  | (k, v) :: r, x => if x = k then some v else findK r x
def setK : List (ByteArray × AV) → ByteArray → AV → List (ByteArray × AV)
  | [], x, v => [(x, v)]
  | (k, w) :: r, x, v => if x = k then (x, v) :: r else (k, w) :: setK r x v
def sN (bs : List Int) : ByteArray := bs.foldl (fun r n => r.push (UInt8.ofNat n.toNat)) ByteArray.empty
def vconv (T : Tab) (s d : Nat) (G : Nat → Ob) (x : AV) (K : AV → Prop) : Prop :=
  match (T.ti s).k with
  | .int _ => match (T.ti d).k, x with
    | .int k, .int _ n => ∃ r, r = k.wrap n ∧ K (.int k r)
    | _, _ => False
  | .str => match (T.ti d).k, x with
    | .str, .str s => K (.str s)
    | _, _ => False
  | .slice e => match (T.ti e).k with
    | .int .u8 => match (T.ti d).k with
      | .str => match norm1 G 1 x with
        | .ro 1 es => ∃ bs : List Int, es = bs.map (fun b => [.int .u8 b]) ∧ K (.str (sN bs))
        | _ => False
      | _ => False
    | _ => False
  | _ => False
def trP : List Nat → Nat → Nat → Nat
  | [], n, i => n + i
  | p :: _, _, 0 => p
  | _ :: r, n, i + 1 => trP r n i
mutual
def tr (ps : List Nat) (n : Nat) : AV → AV
  | .own q off len => .own (trP ps n q) off len
  | .ptr q i c => .ptr (trP ps n q) i c
  | .bptr q c => .bptr (trP ps n q) c
  | .map q => .map (trP ps n q)
  | .agg cs => .agg (trL ps n cs)
  | .tup cs => .tup (trL ps n cs)
  | .fn f cs => .fn f (trL ps n cs)
  | .iface t x => .iface t (tr ps n x)
  | x => x
def trL (ps : List Nat) (n : Nat) : List AV → List AV
  | [] => []
  | x :: xs => tr ps n x :: trL ps n xs
end
def trOb (ps : List Nat) (n : Nat) : Ob → Ob
  | .box t cs => .box t (trL ps n cs)
  | .kv l => .kv (l.map fun kx => (kx.1, tr ps n kx.2))
  | o => o
def trD (ps : List Nat) (n : Nat) : Nat → List Ob → List (Nat × Ob)
  | _, [] => []
  | i, o :: r => (trP ps n i, trOb ps n o) :: trD ps n (i + 1) r
def keepG (G : Nat → Ob) (ps : List Nat) : List Ob := ps.map fun p => renOb ps (G p)
variable (P : Program) (gl : Gl) (T : Tab)
def nargs (E : Operand → AV) (G : Nat → Ob) : List Operand → List Nat → List AV
  | [], _ => []
  | x :: xs, [] => norm G (T.ti 0) (E x) :: nargs E G xs []
  | x :: xs, t :: ts => norm G (T.ti t) (E x) :: nargs E G xs ts
def vfin (ps : List Nat) (G : Nat → Ob) (x : AV) (K : List (Nat × Ob) → Prop) : Prop :=
  match ps with
  | [] => K []
  | _ => match roQ x with
    | some false => K []
    | some true => chk (!(anyBox G ps)) (K (frzP G ps))
    | none => ∃ b, match b with
      | true => chk (!(anyBox G ps)) (K (frzP G ps))
      | false => Flat x ∧ K []
def vres (aS : List AV) (G : Nat → Ob) (n : Nat) (K : AV → List (Nat × Ob) → Prop) (x : AV) : Prop :=
  vfin (lentL G aS) G x fun d0 => match absorb n x with
    | (x', d) => K x' (d0 ++ d)
def vcallR (dr : Bool) (f : FuncId) (nas aS : List AV) (G : Nat → Ob) (n : Nat) (K : AV → List (Nat × Ob) → Prop) : Prop :=
  match dr with
  | false => ∃ R : AV → Prop, VCall P gl f nas R ∧ ∀ x, R x → vres aS G n K x
  | true => ∃ r, VCall P gl f nas (fun x => x = r) ∧ vres aS G n K r
mutual
def refs : AV → List Nat
  | .own p _ _ => [p]
  | .ptr p _ _ => [p]
  | .bptr p _ => [p]
  | .map p => [p]
  | .agg cs => refsL cs
  | .tup cs => refsL cs
  | .fn _ cs => refsL cs
  | .iface _ x => refs x
  | _ => []
def refsL : List AV → List Nat
  | [] => []
  | x :: xs => refs x ++ refsL xs
end
def deep (G : Nat → Ob) : List Nat → List Nat
  | [] => []
  | p :: r => match G p with
    | .box _ cs => p :: (refsL cs ++ deep G r)
    | _ => p :: deep G r
def nodup : List Nat → Bool
  | [] => true
  | p :: r => !(r.any (Nat.beq p)) && nodup r
def handOK (G : Nat → Ob) (n : Nat) (l ps : List Nat) : Bool := ps.all fun p => Nat.blt p n && (l.any (Nat.beq p) && liveB G p)
def vcallH (dr : Bool) (f : FuncId) (aS : List AV) (G : Nat → Ob) (n : Nat) (K : AV → List (Nat × Ob) → Prop) : Prop :=
  ∃ ps : List Nat, (nodup ps && handOK G n (deep G (refsL aS)) ps) = true ∧ match dr with
    | false => ∃ R : AV → List Ob → Prop, VCallH P gl f (renL ps aS) (keepG G ps) R ∧ ∀ x h', R x h' → K (tr ps n x) (trD ps n 0 h')
    | true => ∃ r h', VCallH P gl f (renL ps aS) (keepG G ps) (fun x h => x = r ∧ h = h') ∧ K (tr ps n r) (trD ps n 0 h')
def vcall (dr : Bool) (f : FuncId) (nas aS : List AV) (G : Nat → Ob) (n : Nat) (K : AV → List (Nat × Ob) → Prop) : Prop :=
  vcallR P gl dr f nas aS G n K ∨ vcallH P gl dr f aS G n K
def vop (dr : Bool) (o : Op) (E : Operand → AV) (G : Nat → Ob) (n : Nat) (K : AV → List (Nat × Ob) → Prop) : Prop :=
  match o with
  | .move x | .assign x => K (E x) []
  | .pick c a b => match E c with
    | .bool t => match t with
      | true => K (E a) []
      | false => K (E b) []
    | _ => False
  | .binOp op t x y _ => vbin dr op (isc x || isc y) (T.ti t) (E x) (E y) fun r => K r []
  | .unOp .not _ x => match E x with
    | .bool b => K (.bool (!b)) []
    | _ => False
  | .unOp .neg _ x => match E x with
    | .int k m => ∃ r, r = k.wrap (0 - m) ∧ K (.int k r) []
    | _ => False
  | .convert s d x => vconv T s d G (E x) fun r => K r []
  | .alloc t => match (T.ti t).k with
    | .bad => False
    | _ => K (.bptr n 0) [(n, .box t (T.ti t).zero)]
  | .box t x => chk (szOK (T.ti t).size (E x)) <| K (.bptr n 0) [(n, .box t (cells (E x)))]
  | .build t ps => match (T.ti t).k with
    | .strc fs => chk (partsOK fs (T.ti t).zero.length (ps.toList.map fun p => (p.1, E p.2))) <| K (.agg (putParts fs (T.ti t).zero (ps.toList.map fun p => (p.1, E p.2)))) []
    | _ => False
  | .buildSlice t len ps => T.sl t fun e ti => match litElems G ti 0 (ps.toList.map fun p => (p.1, E p.2)) with
    | some es => chk (Nat.beq es.length len && Nat.ble (len * ti.size) 16777216 && Nat.blt 0 ti.size) <| K (.own n 0 len) (frzP G (lent0P (ps.toList.map fun p => (p.1, E p.2))) ++ [(n, .row false e ti.size es)])
    | none => False
  | .load t a => vload (T.ti t) G (E a) fun r => K r []
  | .store t a v => vstore (T.ti t) G (E a) (E v) fun d => K .u d
  | .nilCheck x => match E x with
    | .bptr p c => chk (liveB G p) (K (.bptr p c) [])
    | .rp cs => K (.rp cs) []
    | _ => False
  | .makeInterface t x => match (T.ti t).k with
    | .bad => False
    | .iface => False
    | _ => K (.iface t (E x)) []
  | .makeSlice t l c => match E l, E c with
    | .int .i64 l, .int .i64 c => T.sl t fun e ti => chk (Nat.blt 0 ti.size) <| 0 ≤ l ∧ l ≤ c ∧ c ≤ 1073741824 ∧ c * ti.bytes ≤ 140737488355328 ∧ ∃ m : Nat, l = m ∧
        K (.own n 0 m) [(n, .row false e ti.size (List.replicate m ti.zero))]
    | _, _ => False
  | .slice t x lo hi none => vslice T t G (E x) (lo.map E) (hi.map E) fun r => K r []
  | .fieldAddr t x f => match (T.ti t).k with
    | .strc fs => match fs[f]? with
      | some (off, k, _) => chk (Nat.blt 0 k) <| match E x with
        | .rp cs => chk (Nat.ble off cs.length) <| K (.rp (cs.drop off)) []
        | .bptr p c => chk (liveB G p) (K (.bptr p (c + off)) [])
        | .ptr p i c => chk (liveB G p) (K (.ptr p i (c + off)) [])
        | _ => False
      | none => False
    | _ => False
  | .field t x f => match (T.ti t).k with
    | .strc fs => match fs[f]? with
      | some (off, k, ag) => match E x with
        | .agg cs => chk (Nat.ble (off + k) cs.length) <| (match ag with | true => K (.agg ((cs.drop off).take k)) [] | false => match cs.drop off with | c :: _ => K c [] | [] => False)
        | _ => False
      | none => False
    | _ => False
  | .indexAddr t x i => match E i with
    | .int _ k => viaddr T t G (E x) k fun r => K r []
    | _ => False
  | .index t x i => match E i with
    | .int _ m => match (T.ti t).k, E x with
      | .str, .str s => ∃ (k : Nat) (c : UInt8), m = k ∧ s.toList[k]? = some c ∧ K (.int .u8 c.toNat) []
      | _, _ => False
    | _ => False
  | .extract x i => match E x with
    | .tup cs => match cs[i]? with
      | some c => K c []
      | none => False
    | _ => False
  | .makeFunc (.func f) fi cap => match fi.toList with
    | [] => K (.fn f (cap.toList.map E)) []
    | _ => False
  | .makeMap _ none => K (.map n) [(n, .kv [])]
  | .range t x => match (T.ti t).k with
    | .str => match E x with
      | .str s => K (.bptr n 0) [(n, .iter s 0)]
      | _ => False
    | _ => False
  | .next x true => match E x with
    | .bptr p 0 => match G p with
      | .iter s k => match Nat.blt k s.size with
        | true => ∃ c m, (c, m) = Utf8.decode s k ∧ K (.tup [.bool true, .int .i64 k, .int .i32 c]) [(p, .iter s (k + m))]
        | false => K (.tup [.bool false]) []
      | _ => False
    | _ => False
  | .lookup t x i ok => match (T.ti t).k with
    | .map e => match (T.ti e).k with
      | .bad => False
      | _ => match E x, E i with
        | .map p, .str k => match G p with
          | .kv l => match ok with
            | false => ∃ r, r = (findK l k).getD (cav (T.ti e).zv) ∧ K r []
            | true => ∃ r b, r = (findK l k).getD (cav (T.ti e).zv) ∧ b = (findK l k).isSome ∧ K (.tup [r, .bool b]) []
          | _ => False
        | _, _ => False
    | _ => False
  | .mapUpdate t m k v | .insert t m k v => match (T.ti t).k with
    | .map _ => match E m, E k with
      | .map p, .str k => match G p with
        | .kv l => ∃ r, r = setK l k (E v) ∧ K .u [(p, .kv r)]
        | _ => False
      | _, _ => False
    | _ => False
  | .call { callee := .builtin .len, args, argTypes } => match args.toList, argTypes.toList with
    | [x], [t] => vlen (T.ti t) G (E x) fun r => K r []
    | _, _ => False
  | .call { callee := .builtin .append, args, argTypes } => match args.toList, argTypes.toList with
    | [x, y], [t, t'] => t = t' ∧ vappend T t G n (E x) (E y) K
    | _, _ => False
  | .call { callee := .builtin .copy, args, argTypes } => match args.toList, argTypes.toList with
    | [x, y], [t, _] => vcopy T t G (E x) (E y) K
    | _, _ => False
  | .call { callee := .builtin .min, args, argTypes := _ } => match args.toList with
    | [x, y] => match E x, E y with
      | .int k a, .int k' b => k = k' ∧ ∃ r, r = (if b < a then b else a) ∧ K (.int k r) []
      | _, _ => False
    | _ => False
  | .call { callee := .builtin .max, args, argTypes := _ } => match args.toList with
    | [x, y] => match E x, E y with
      | .int k a, .int k' b => k = k' ∧ ∃ r, r = (if a < b then b else a) ∧ K (.int k r) []
      | _, _ => False
    | _ => False
  | .call { callee := .value (.func f), args, argTypes } => vcall P gl dr f (nargs T E G args.toList argTypes.toList) (args.toList.map E) G n K
  | .call { callee := .value (.tmp t), args, argTypes } => match E (.tmp t) with
    | .fn f cap => vcall P gl dr f (nargs T E G args.toList argTypes.toList ++ normL G [] cap) (args.toList.map E ++ cap) G n K
    | _ => False
  | _ => False
def reads (E : Operand → AV) (G : Nat → Ob) (o : Op) : List Nat :=
  match o with
  | .move _ => []
  | .assign _ => []
  | .pick _ _ _ => []
  | o => deep G (refsL (o.operands.toList.map E))
def St.upd (st : St) (dst : Option Tmp) (v : AV) (d : List (Nat × Ob)) : St := St.put ⟨st.t, setAll st.h d⟩ dst v
def vguard (ops : Array Oper) (o : Oper) (st : St) : Option Bool :=
  match o.guard with
  | none => some true
  | some (i, b) => match (ops[i]?).bind (·.dst) with
    | none => none
    | some d => match st.get d with
      | .bool c => some (c == b)
      | .u => some false
      | _ => none
def vgd (ops : Array Oper) (o : Oper) (st : St) (X Y : Prop) : Prop :=
  match o.guard with
  | none => X
  | some (i, b) => match (ops[i]?).bind (·.dst) with
    | none => False
    | some d => match st.get d with
      | .bool c => match b with
        | true => match c with | true => X | false => Y
        | false => match c with | true => Y | false => X
      | .u => Y
      | _ => False
theorem vgd_cases {ops : Array Oper} {o : Oper} {st : St} {X Y : Prop} (h : vgd ops o st X Y) : (vguard ops o st = some true ∧ X) ∨ (vguard ops o st = some false ∧ Y) := by
  unfold vgd at h
  unfold vguard
  generalize o.guard = g at h ⊢
  cases g with
  | none => exact .inl ⟨rfl, h⟩
  | some q =>
    obtain ⟨i, b⟩ := q
    dsimp only at h ⊢
    generalize (ops[i]?).bind (·.dst) = d at h ⊢
    cases d with
    | none => exact h.elim
    | some d =>
      dsimp only at h ⊢
      generalize st.get d = x at h ⊢
      cases x with
      | bool c => cases b <;> cases c <;> first | exact .inl ⟨rfl, h⟩ | exact .inr ⟨rfl, h⟩
      | u => exact .inr ⟨rfl, h⟩
      | _ => exact h.elim
def fV (x : AV) (K : AV → Prop) : Prop :=
  match x with
  | .j => K .j
  | .u => K .u
  | .int k n => K (.int k n)
  | .bool b => K (.bool b)
  | .str s => K (.str s)
  | .agg cs => K (.agg cs)
  | .tup cs => K (.tup cs)
  | .nils => K .nils
  | .ro sz es => K (.ro sz es)
  | .fr e sz es => K (.fr e sz es)
  | .own p off len => K (.own p off len)
  | .rp cs => K (.rp cs)
  | .bptr p c => K (.bptr p c)
  | .ptr p i c => K (.ptr p i c)
  | .fn f cap => K (.fn f cap)
  | .map p => K (.map p)
  | .iface t x => K (.iface t x)
  | .nili => K .nili
def fN : Nat → (Nat → Prop) → Prop
  | 0, K => K 0
  | n + 1, K => fN n fun m => K (m + 1)
def fNs : List Nat → (List Nat → Prop) → Prop
  | [], K => K []
  | p :: r, K => fN p fun p => fNs r fun r => K (p :: r)
def fOb (o : Ob) (K : Ob → Prop) : Prop :=
  match o with
  | .dead => K .dead
  | .gone => K .gone
  | .box t cs => K (.box t cs)
  | .row fz e sz es => K (.row fz e sz es)
  | .kv l => K (.kv l)
  | .iter s k => K (.iter s k)
def fD : List (Nat × Ob) → (List (Nat × Ob) → Prop) → Prop
  | [], K => K []
  | (p, o) :: r, K => fN p fun p => fOb o fun o => fD r fun r => K ((p, o) :: r)
def fL {α : Type} : List α → (List α → Prop) → Prop
  | [], K => K []
  | x :: r, K => fL r fun r => K (x :: r)
theorem fV_eq (x : AV) (K : AV → Prop) : fV x K = K x := by cases x <;> rfl
theorem fN_eq : ∀ (n : Nat) (K : Nat → Prop), fN n K = K n
  | 0, K => rfl
  | n + 1, K => fN_eq n _
theorem fNs_eq : ∀ (l : List Nat) (K : List Nat → Prop), fNs l K = K l
  | [], K => rfl
  | p :: r, K => by simp only [fNs, fN_eq, fNs_eq r]
theorem fOb_eq (o : Ob) (K : Ob → Prop) : fOb o K = K o := by cases o <;> rfl
theorem fD_eq : ∀ (l : List (Nat × Ob)) (K : List (Nat × Ob) → Prop), fD l K = K l
  | [], K => rfl
  | (p, o) :: r, K => by simp only [fD, fN_eq, fOb_eq, fD_eq r]
theorem fL_eq {α : Type} : ∀ (l : List α) (K : List α → Prop), fL l K = K l
  | [], K => rfl
  | x :: r, K => by simp only [fL, fL_eq r]
def vone (ops : Array Oper) (o : Oper) (st : St) (C : St → Prop) : Prop := vgd ops o st
    (fN st.h.length fun n => vop P gl T false o.op (st.ev gl) (getOb st.h) n fun v d => fV v fun v => fD d fun d => C (st.upd o.dst v d))
    (C (st.put o.dst .u))
def vregion (ops : Array Oper) (K : St → Prop) : List Oper → St → Prop
  | [], st => K st
  | o :: r, st => vone P gl T ops o st (vregion ops K r)
structure Note where
  rd : List Nat
  wr : List Nat
def disj : List Nat → List Nat → Bool
  | [], _ => true
  | p :: r, l => !(l.any (Nat.beq p)) && disj r l
def clear (b : Nat) (m : Note) : Nat → List Note → Bool
  | _, [] => true
  | i, x :: r => (b.testBit i || (disj x.wr m.rd && disj x.wr m.wr && disj x.rd m.wr)) && clear b m (i + 1) r
def befOK (ops : Array Oper) (bs : List Nat) : Bool := (List.range ops.size).all fun j => match ops[j]? with
  | some o => Nat.beq (bs.getD j 0) (o.after.toList.foldl (fun s e => match Region.binds .any e with | true => s ||| 2 ^ e.on ||| bs.getD e.on 0 | false => s) 0)
  | none => true
def vdraw (ops : Array Oper) (bs : List Nat) (K : St → Prop) : List Oper → List Note → St → Prop
  | [], _, st => K st
  | o :: r, ns, st => vgd ops o st
    (vop P gl T true o.op (st.ev gl) (getOb st.h) st.h.length fun v d =>
        chk (clear (bs.getD ns.length 0) ⟨reads (st.ev gl) (getOb st.h) o.op, d.map (·.1)⟩ 0 ns) <|
          vdraw ops bs K r (ns ++ [⟨reads (st.ev gl) (getOb st.h) o.op, d.map (·.1)⟩]) (st.upd o.dst v d))
    (vdraw ops bs K r (ns ++ [⟨[], []⟩]) (st.put o.dst .u))
def vtwo (ops : Array Oper) (bs : List Nat) (o : Oper) (i : Nat) (ns : List Note) (st : St) (C : List Note → St → Prop) : Prop := vgd ops o st
    (fN st.h.length fun n => vop P gl T true o.op (st.ev gl) (getOb st.h) n fun v d => fV v fun v => fD d fun d =>
        fNs (reads (st.ev gl) (getOb st.h) o.op) fun rd => fNs (d.map (·.1)) fun wr =>
        chk (clear (bs.getD i 0) ⟨rd, wr⟩ 0 ns) <|
          fL (ns ++ [⟨rd, wr⟩]) fun ns => C ns (st.upd o.dst v d))
    (fL (ns ++ [⟨[], []⟩]) fun ns => C ns (st.put o.dst .u))
def vdraw2 (ops : Array Oper) (bs : List Nat) (K : St → Prop) : List Oper → Nat → List Note → St → Prop
  | [], _, _, st => K st
  | o :: r, i, ns, st => vtwo P gl T ops bs o i ns st (vdraw2 ops bs K r (i + 1))
inductive Ex where
  | nrm | ex (id : Nat) | ret
  deriving DecidableEq
def exThen (K : St → Prop) (Q : Ex → St → Prop) : Ex → St → Prop
  | .nrm, st => K st
  | e, st => Q e st
def exBlock (id : Nat) (Q : Ex → St → Prop) : Ex → St → Prop
  | .ex k, st => match Nat.beq k id with
    | true => Q .nrm st
    | false => Q (.ex k) st
  | e, st => Q e st
def pinOK : Nat → List Nat → Nat → Bool
  | 0, _, _ => true
  | k + 1, p :: ps, i => Nat.beq p i && pinOK k ps (i + 1)
  | _ + 1, [], _ => false
def vwp (np : Nat) : Code → (Ex → St → Prop) → St → Prop
  | .skip, Q, st => Q .nrm st
  | .region _ ops false, Q, st => vregion P gl T ops (Q .nrm) ops.toList st
  | .region _ ops true, Q, st => Region.lexB .any ops = true ∧ ∃ bs : List Nat, befOK ops bs = true ∧ vdraw2 P gl T ops bs (Q .nrm) ops.toList 0 [] st
  | .seq a b, Q, st => vwp np a (exThen (fun st' => vwp np b Q st') Q) st
  | .cond c a b, Q, st => match st.ev gl c with
    | .bool t => match t with
      | true => vwp np a Q st
      | false => vwp np b Q st
    | _ => False
  | .block id c, Q, st => vwp np c (exBlock id Q) st
  | .loop c, Q, st => ∃ (live ps : List Nat) (I : Nat → St → Prop), (nodup ps && pinOK np ps 0) = true ∧ (∃ m, I m (st.keep live ps)) ∧
      ∀ m st', I m st' → vwp np c (exThen (fun s => ∃ ps' m', (nodup ps' && pinOK np ps' 0) = true ∧ m' < m ∧ I m' (s.keep live ps')) Q) st'
  | .exit id, Q, st => Q (.ex id) st
  | .ret, Q, st => Q .ret st
  | _, _, _ => False
end Go.V
namespace Go.V
open Go.RowKit
def kok (P : Program) : TK → Option TypeDesc → Bool
  | .bad, _ => true
  | .int k, some (.int k') => k == k'
  | .bool, some .bool => true
  | .str, some .string => true
  | .slice e, some (.slice e') => Nat.beq e e'
  | .ptr e, some (.pointer e') => Nat.beq e e'
  | .strc fs, some (.struct fl) => (fl.toList.map fun f => (f.offset, ((P.info? f.type).map (·.size)).getD 0, match P.underlying f.type with | some (.struct _) => true | some (.array _ _) => true | _ => false)) == fs && fl.toList.all (fun f => (P.info? f.type).isSome && (P.underlying f.type).isSome)
  | .arr n e, some (.array n' e') => Nat.beq n n' && Nat.beq e e'
  | .map e, some (.map k e') => Nat.beq e e' && (match P.underlying k with | some .string => true | _ => false)
  | .fn, some (.func ..) => true
  | .iface, some (.interface _) => true
  | .tup, some (.tuple _) => true
  | _, _ => false
structure TFact (P : Program) (t : Nat) (ti : TI) : Prop where
  info : (P.info? t).map (fun i => (i.zero, i.size, i.bytes)) = some (some ti.zv, ti.size, ti.bytes)
  kind : kok P ti.k (P.underlying t) = true
  zero : (Nat.beq ti.zv.cells.size ti.size && ti.zv.cells.all (·.oneCell')) = true
def TOK (P : Program) : Tab → Prop
  | [] => True
  | (t, ti) :: r => TFact P t ti ∧ TOK P r
theorem TOK.get {P : Program} {T : Tab} (h : TOK P T) {t : Nat} (hk : (T.ti t).k ≠ .bad) : TFact P t (T.ti t) := by
  induction T with
  | nil => exact absurd rfl hk
  | cons x r ih =>
    obtain ⟨k, ti⟩ := x
    unfold Tab.ti lk at hk ⊢
    cases hb : Nat.beq k t with
    | true =>
      simp only [hb] at hk ⊢
      rw [← Nat.eq_of_beq_eq_true hb]; exact h.1
    | false =>
      simp only [hb] at hk ⊢
      exact ih h.2 hk
theorem chk_iff {b : Bool} {K : Prop} : chk b K ↔ b = true ∧ K := by cases b <;> simp [chk]
theorem cav_ok (S : Nat → Prop) (H : Hp) (w : World) (v : Value) : RepV S H w (cav v) v := by
  unfold cav
  split <;> simp [RepV]
theorem gcell_ok {S w gl} (h : GlOK S w gl) (g : Nat) (H : Hp) : RepV S H w (gcell gl g) (.pointer (some ⟨g, 0, none⟩)) := by
  induction gl with
  | nil => simp [gcell, RepV]
  | cons x r ih =>
    obtain ⟨k, cs⟩ := x
    unfold gcell
    cases hb : Nat.beq k g with
    | true =>
      have := (h k cs (by simp)).1
      rw [Nat.eq_of_beq_eq_true hb] at this
      simpa [RepV] using this
    | false => exact ih fun g' cs' hm => h g' cs' (List.mem_cons_of_mem _ hm)
structure Wd (gl : Gl) (B : Base) (S : Nat → Prop) (H : Hp) (w : World) : Prop where
  ok : HeapOK S B H w
  kept : Kept B w
  gl : GlOK S w gl
  bs : ∀ b, S b → B.S0 b ∨ B.w0.heap.size ≤ b ∨ B.M b
  sup : ∀ b, B.S0 b → S b
structure Opn (gl : Gl) (B : Base) (S : Nat → Prop) (H : Hp) (w : World) (E : Operand → AV) (a : Act) : Prop where
  wd : Wd gl B S H w
  ev : ∀ x, RepV S H w (E x) (a.eval x)
theorem Pin.later {B S H w S' H' w'} (h : Pin B H) (L : Later S H w S' H' w') : Pin B H' := fun i q hi => by
  obtain ⟨h1, h2⟩ := h i q hi
  obtain ⟨h3, h4⟩ := L.ob i h1
  refine ⟨h3, fun s hs => ?_⟩
  obtain ⟨e1, e2, e3⟩ := h4 s hs
  rw [e2, e3]; exact h2 s e1
structure Rel (gl : Gl) (B : Base) (S : Nat → Prop) (H : Hp) (st : St) (a : Act) (w : World) : Prop where
  hh : H.h = st.h
  wd : Wd gl B S H w
  tm : ∀ t, RepV S H w (st.get t) (a.tmps.getD t undef)
  pin : Pin B H
theorem Rel.opn {gl B S H st a w} (hr : Rel gl B S H st a w) : Opn gl B S H w (st.ev gl) a := by
  refine ⟨hr.wd, fun x => ?_⟩
  cases x with
  | tmp t => exact hr.tm t
  | const v => exact cav_ok S H w v
  | global g => exact gcell_ok hr.wd.gl g H
  | func f => exact ⟨[], rfl, rfl⟩
structure Eff (gl : Gl) (B : Base) (S : Nat → Prop) (H : Hp) (w : World) (S' : Nat → Prop) (H' : Hp) (w' : World) (d : List (Nat × Ob)) : Prop where
  hh : H'.h = setAll H.h d
  wd : Wd gl B S' H' w'
  later : Later S H w S' H' w'
theorem Later.refl (S : Nat → Prop) (H : Hp) (w : World) : Later S H w S H w :=
  ⟨fun b hb _ => ⟨hb, rfl⟩, Nat.le_refl _, fun p h => ⟨h, fun sz hs => ⟨hs, rfl, rfl⟩⟩⟩
theorem Rel.upd {gl B S H st a w S' H' w' d} (hr : Rel gl B S H st a w) (he : Eff gl B S H w S' H' w' d) {dst : Option Tmp} (hd : ∀ d, dst = some d → d < a.tmps.size) {x : AV} {u : Value}
    (h : RepV S' H' w' x u) : Rel gl B S' H' (st.upd dst x d) (a.put dst u) w' := by
  have hr' : Rel gl B S' H' ⟨st.t, setAll st.h d⟩ a w' := ⟨by rw [he.hh, hr.hh], he.wd, fun t => RepV.later he.later _ _ (hr.tm t), hr.pin.later he.later⟩
  cases dst with
  | none => exact hr'
  | some d' =>
    refine ⟨hr'.hh, hr'.wd, fun t => ?_, hr'.pin⟩
    show RepV S' H' w' (lk .j ((d', x) :: st.t) t) ((a.tmps.setIfInBounds d' u).getD t undef)
    unfold lk
    cases hb : Nat.beq d' t with
    | true =>
      have e := Nat.eq_of_beq_eq_true hb
      subst e
      have hlt := hd d' rfl
      simp only
      have : (a.tmps.setIfInBounds d' u).getD d' undef = u := by
        simp [Array.getD, hlt]
      rw [this]; exact h
    | false =>
      have hne : d' ≠ t := fun e => by subst e; simp at hb
      have : (a.tmps.setIfInBounds d' u).getD t undef = a.tmps.getD t undef := by
        simp [Array.getD_eq_getD_getElem?, Array.getElem?_setIfInBounds_ne hne]
      simp only
      rw [this]; exact hr'.tm t
theorem Eff.refl {gl B S H w} (h : Wd gl B S H w) : Eff gl B S H w S H w [] := ⟨rfl, h, Later.refl S H w⟩
theorem RepL.length {S H w} : ∀ {xs : List AV} {vs : List Value}, RepL S H w xs vs → vs.length = xs.length
  | [], vs, h => by simp only [RepL] at h; simp [h]
  | x :: xs, vs, h => by
    simp only [RepL] at h
    obtain ⟨v, r, e, _, hr⟩ := h
    simp [e, RepL.length hr]
theorem RepLL.length {S w} : ∀ {xs : List (List AV)} {vs : List (List Value)}, RepLL S w xs vs → vs.length = xs.length
  | [], vs, h => by simp only [RepLL] at h; simp [h]
  | x :: xs, vs, h => by
    simp only [RepLL] at h
    obtain ⟨v, r, e, _, hr⟩ := h
    simp [e, RepLL.length hr]
theorem RepL.get {S H w} : ∀ {xs : List AV} {vs : List Value}, RepL S H w xs vs → ∀ {i : Nat} {x : AV}, xs[i]? = some x → ∃ v, vs[i]? = some v ∧ RepV S H w x v
  | [], _, _, _, _, hi => by simp at hi
  | y :: xs, vs, h, i, x, hi => by
    simp only [RepL] at h
    obtain ⟨v, r, e, hv, hr⟩ := h
    subst e
    cases i with
    | zero => simp at hi; subst hi; exact ⟨v, rfl, hv⟩
    | succ i => simpa using RepL.get hr (by simpa using hi)
theorem RepLL.get {S w} : ∀ {xs : List (List AV)} {vs : List (List Value)}, RepLL S w xs vs → ∀ {i : Nat} {x : List AV}, xs[i]? = some x → ∃ v, vs[i]? = some v ∧ RepL S H0 w x v
  | [], _, _, _, _, hi => by simp at hi
  | y :: xs, vs, h, i, x, hi => by
    simp only [RepLL] at h
    obtain ⟨v, r, e, hv, hr⟩ := h
    subst e
    cases i with
    | zero => simp at hi; subst hi; exact ⟨v, rfl, hv⟩
    | succ i => simpa using RepLL.get hr (by simpa using hi)
theorem RepL.drop {S H w} : ∀ {xs : List AV} {vs : List Value} (n : Nat), RepL S H w xs vs → RepL S H w (xs.drop n) (vs.drop n)
  | xs, vs, 0, h => by simpa using h
  | [], vs, n + 1, h => by simp only [RepL] at h; subst h; simp [RepL]
  | x :: xs, vs, n + 1, h => by
    simp only [RepL] at h
    obtain ⟨v, r, e, _, hr⟩ := h
    subst e; simpa using RepL.drop n hr
theorem RepL.take {S H w} : ∀ {xs : List AV} {vs : List Value} (n : Nat), RepL S H w xs vs → RepL S H w (xs.take n) (vs.take n)
  | xs, vs, 0, h => by simp [RepL]
  | [], vs, n + 1, h => by simp only [RepL] at h; subst h; simp [RepL]
  | x :: xs, vs, n + 1, h => by
    simp only [RepL] at h
    obtain ⟨v, r, e, hv, hr⟩ := h
    subst e
    simp only [List.take_succ_cons, RepL]
    exact ⟨v, _, rfl, hv, RepL.take n hr⟩
theorem RepLL.drop {S w} : ∀ {xs : List (List AV)} {vs : List (List Value)} (n : Nat), RepLL S w xs vs → RepLL S w (xs.drop n) (vs.drop n)
  | xs, vs, 0, h => by simpa using h
  | [], vs, n + 1, h => by simp only [RepLL] at h; subst h; simp [RepLL]
  | x :: xs, vs, n + 1, h => by
    simp only [RepLL] at h
    obtain ⟨v, r, e, _, hr⟩ := h
    subst e; simpa using RepLL.drop n hr
theorem RepLL.take {S w} : ∀ {xs : List (List AV)} {vs : List (List Value)} (n : Nat), RepLL S w xs vs → RepLL S w (xs.take n) (vs.take n)
  | xs, vs, 0, h => by simp [RepLL]
  | [], vs, n + 1, h => by simp only [RepLL] at h; subst h; simp [RepLL]
  | x :: xs, vs, n + 1, h => by
    simp only [RepLL] at h
    obtain ⟨v, r, e, hv, hr⟩ := h
    subst e
    simp only [List.take_succ_cons, RepLL]
    exact ⟨v, _, rfl, hv, RepLL.take n hr⟩
theorem RepLL.append {S w} : ∀ {xs ys : List (List AV)} {vs us : List (List Value)}, RepLL S w xs vs → RepLL S w ys us → RepLL S w (xs ++ ys) (vs ++ us)
  | [], ys, vs, us, h, k => by simp only [RepLL] at h; subst h; simpa using k
  | x :: xs, ys, vs, us, h, k => by
    simp only [RepLL] at h
    obtain ⟨v, r, e, hv, hr⟩ := h
    subst e
    simp only [List.cons_append, RepLL]
    exact ⟨v, _, rfl, hv, RepLL.append hr k⟩
theorem RepL.append {S H w} : ∀ {xs ys : List AV} {vs us : List Value}, RepL S H w xs vs → RepL S H w ys us → RepL S H w (xs ++ ys) (vs ++ us)
  | [], ys, vs, us, h, k => by simp only [RepL] at h; subst h; simpa using k
  | x :: xs, ys, vs, us, h, k => by
    simp only [RepL] at h
    obtain ⟨v, r, e, hv, hr⟩ := h
    subst e
    simp only [List.cons_append, RepL]
    exact ⟨v, _, rfl, hv, RepL.append hr k⟩
theorem RepLL.set {S w} : ∀ {xs : List (List AV)} {vs : List (List Value)}, RepLL S w xs vs → ∀ (i : Nat) {y : List AV} {u : List Value}, RepL S H0 w y u → RepLL S w (xs.set i y) (vs.set i u)
  | [], _, h, _, _, _, _ => by simp only [RepLL] at h; subst h; simp [RepLL]
  | x :: xs, vs, h, i, y, u, k => by
    simp only [RepLL] at h
    obtain ⟨v, r, e, hv, hr⟩ := h
    subst e
    cases i with
    | zero => simp only [List.set_cons_zero, RepLL]; exact ⟨u, r, rfl, k, hr⟩
    | succ i => simp only [List.set_cons_succ, RepLL]; exact ⟨v, _, rfl, hv, RepLL.set hr i k⟩
theorem later_zero (S : Nat → Prop) (H : Hp) (w : World) : Later S H0 w S H w := ⟨fun b hb _ => ⟨hb, rfl⟩, Nat.le_refl _, fun p hp => absurd (at_H0 p) hp⟩
theorem RepL.plain {S H w} {xs : List AV} {vs : List Value} (h : RepL S H0 w xs vs) : RepL S H w xs vs := RepL.later (later_zero S H w) xs vs h
theorem RepV.plain {S H w} {x : AV} {v : Value} (h : RepV S H0 w x v) : RepV S H w x v := RepV.later (later_zero S H w) x v h
end Go.V
namespace Go.V
open Go.RowKit
variable {P : Program} {gl : Gl} {T : Tab}
theorem wp_val {o : Oper} {a : Act} {w w' : World} {u : Value} {next : Act → World → Prop} {Q : Exit → Act → World → Prop}
    (h : (execOp a.eval o).run P w = .ok (.value u) w') (hn : next (a.put o.dst u) w') : o.wp P a w next Q := by
  unfold Oper.wp; rw [h]; exact hn
theorem wp_skip' {o : Oper} {a : Act} {w w' : World} {next : Act → World → Prop} {Q : Exit → Act → World → Prop}
    (h : (execOp a.eval o).run P w = .ok .skip w') (hn : next (a.put o.dst undef) w') : o.wp P a w next Q := by
  unfold Oper.wp; rw [h]; exact hn
def Ok1 (P : Program) (gl : Gl) (B : Base) (S : Nat → Prop) (H : Hp) (a : Act) (w : World) (o : Oper) (K : AV → List (Nat × Ob) → Prop) : Prop :=
  ∀ (next : Act → World → Prop) (Q : Exit → Act → World → Prop),
    (∀ x d u S' H' w', K x d → Eff gl B S H w S' H' w' d → RepV S' H' w' x u → next (a.put o.dst u) w') → o.wp P a w next Q
theorem ok_val {B S H E a w} {o : Oper} {K : AV → List (Nat × Ob) → Prop} {x : AV} {u : Value} (hr : Opn gl B S H w E a)
    (h : (execOp a.eval o).run P w = .ok (.value u) w) (hk : K x []) (hx : RepV S H w x u) : Ok1 P gl B S H a w o K :=
  fun next Q hn => wp_val h (hn x [] u S H w hk (Eff.refl hr.wd) hx)
theorem und_bool {T : Tab} (hT : TOK P T) {t : TypeId} (h : (T.ti t).k = .bool) : P.underlying t = some .bool := by
  have f := (hT.get (t := t) (by rw [h]; simp)).kind
  rw [h] at f
  cases hu : P.underlying t with
  | none => rw [hu] at f; cases f
  | some d => rw [hu] at f; cases d <;> first | rfl | cases f
theorem und_iface {T : Tab} (hT : TOK P T) {t : TypeId} (h : (T.ti t).k = .iface) : ∃ ms, P.underlying t = some (.interface ms) := by
  have f := (hT.get (t := t) (by rw [h]; simp)).kind
  rw [h] at f
  cases hu : P.underlying t with
  | none => rw [hu] at f; cases f
  | some d => rw [hu] at f; cases d <;> first | exact ⟨_, rfl⟩ | cases f
theorem und_str {T : Tab} (hT : TOK P T) {t : TypeId} (h : (T.ti t).k = .str) : P.underlying t = some .string := by
  have f := (hT.get (t := t) (by rw [h]; simp)).kind
  rw [h] at f
  cases hu : P.underlying t with
  | none => rw [hu] at f; cases f
  | some d => rw [hu] at f; cases d <;> first | rfl | cases f
theorem und_int {T : Tab} (hT : TOK P T) {t : TypeId} {k : IntKind} (h : (T.ti t).k = .int k) : P.underlying t = some (.int k) := by
  have f := (hT.get (t := t) (by rw [h]; simp)).kind
  rw [h] at f
  cases hu : P.underlying t with
  | none => rw [hu] at f; cases f
  | some d =>
    rw [hu] at f
    cases d <;> first | cases f | (simp [kok] at f; rw [f])
theorem und_slice {T : Tab} (hT : TOK P T) {t e : TypeId} (h : (T.ti t).k = .slice e) : P.underlying t = some (.slice e) := by
  have f := (hT.get (t := t) (by rw [h]; simp)).kind
  rw [h] at f
  cases hu : P.underlying t with
  | none => rw [hu] at f; cases f
  | some d =>
    rw [hu] at f
    cases d <;> first | cases f | (simp [kok] at f; rw [f])
theorem rep_int {S H w} (k : IntKind) (n : Int) : RepV S H w (.int k n) (.int k n) := by simp [RepV]
theorem rep_bool {S H w} (b : Bool) : RepV S H w (.bool b) (.bool b) := by simp [RepV]
theorem rep_str {S H w} (b : ByteArray) : RepV S H w (.str b) (.string b) := by simp [RepV]
theorem rep_u {S H w} : RepV S H w .u undef := by simp [RepV, undef]
theorem eqIn_nn (w : World) (d : Nat) {t : TypeId} {ms} (h : P.underlying t = some (.interface ms)) : (Op.equalIn (d + 1) t .nilIface .nilIface).run P w = .ok true w := by
  simp [Op.equalIn, run_underlying h]
theorem eqIn_in (w : World) (d : Nat) {t u : TypeId} {ms} {v : Value} (h : P.underlying t = some (.interface ms)) : (Op.equalIn (d + 1) t (.iface u v) .nilIface).run P w = .ok false w := by
  simp [Op.equalIn, run_underlying h]
theorem eq_b (w : World) {t : TypeId} (a b : Bool) (h : P.underlying t = some .bool) : (Op.equal t (.bool a) (.bool b)).run P w = .ok (a == b) w := run_equal_bool w t a b h
theorem eq_nn (w : World) {t : TypeId} {ms} (h : P.underlying t = some (.interface ms)) : (Op.equal t .nilIface .nilIface).run P w = .ok true w := eqIn_nn w 9999 h
theorem eq_in (w : World) {t u : TypeId} {ms} {v : Value} (h : P.underlying t = some (.interface ms)) : (Op.equal t (.iface u v) .nilIface).run P w = .ok false w := eqIn_in w 9999 h
theorem eqIn_sl (w : World) (d : Nat) {t e : TypeId} {A : Option Addr} {l c : Nat} (h : P.underlying t = some (.slice e)) : (Op.equalIn (d + 1) t (.slice A l c) (.slice none 0 0)).run P w = .ok A.isNone w := by
  cases A <;> simp [Op.equalIn, run_underlying h]
theorem eq_sl (w : World) {t e : TypeId} {A : Option Addr} {l c : Nat} (h : P.underlying t = some (.slice e)) : (Op.equal t (.slice A l c) (.slice none 0 0)).run P w = .ok A.isNone w := eqIn_sl w 9999 h
theorem veq_ok {S : Nat → Prop} {H : Hp} {w : World} (dr neg cst : Bool) (t : TypeId) (x y : AV) (u v : Value) (K : AV → Prop) (hT : TOK P T)
    (h : veq dr neg cst (T.ti t) x y K) (hx : RepV S H w x u) (hy : RepV S H w y v) (X Y : Operand) (hc : cst = true → isc X = true ∨ isc Y = true) :
    ∃ r val, ((do eqGuard (if neg then .neq else .eql) t X Y u v; binOp (if neg then .neq else .eql) t u v) : Sem Value).run P w = .ok val w ∧ RepV S H w r val ∧ K r := by
  unfold veq at h
  split at h
  · rename_i hk
    have hu := und_bool hT hk
    split at h
    · obtain ⟨r, rfl, hK⟩ := h
      rename_i a b
      simp only [RepV] at hx hy
      subst hx hy
      refine ⟨_, .bool ((a == b) != neg), ?_, rep_bool _, hK⟩
      cases neg <;> simp [eqGuard, binOp, eq_b w a b hu]
    · exact h.elim
  · rename_i hk
    obtain ⟨ms, hu⟩ := und_iface hT hk
    split at h
    · split at h
      · simp only [RepV] at hx hy
        subst hx hy
        refine ⟨_, .bool (!neg), ?_, rep_bool _, h⟩
        rcases hc rfl with hc' | hc'
        · cases X <;> first | (cases neg <;> simp [eqGuard, binOp, eq_nn w hu]; done) | (simp [isc] at hc'; done)
        · cases Y <;> first | (cases X <;> cases neg <;> simp [eqGuard, binOp, eq_nn w hu]; done) | (simp [isc] at hc'; done)
      · simp only [RepV] at hx hy
        obtain ⟨z, rfl, _⟩ := hx
        subst hy
        refine ⟨_, .bool neg, ?_, rep_bool _, h⟩
        cases neg <;> simp [eqGuard, binOp, eq_in w hu]
      · exact h.elim
    · exact h.elim
  · rename_i e hk
    have hu := und_slice hT hk
    split at h
    · simp only [RepV] at hy
      subst hy
      split at h
      · simp only [RepV] at hx
        subst hx
        refine ⟨_, .bool (!neg), ?_, rep_bool _, h⟩
        cases neg <;> simp [eqGuard, binOp, eq_sl w hu]
      · rename_i sz es
        simp only [RepV] at hx
        obtain ⟨A, c, rfl, hc, hm, hx⟩ := hx
        have hr : ((do eqGuard (if neg then .neq else .eql) t X Y (.slice A es.length c) (.slice none 0 0); binOp (if neg then .neq else .eql) t (.slice A es.length c) (.slice none 0 0)) : Sem Value).run P w = .ok (.bool (A.isNone != neg)) w := by
          cases neg <;> simp [eqGuard, binOp, eq_sl w hu]
        split at h
        · split at h
          · exact h.elim
          · refine ⟨_, _, hr, rep_bool _, ?_⟩
            generalize (A.isNone != neg) = b
            cases b
            · exact h.2
            · exact h.1
        · rcases hx with hx | ⟨a, rfl, _⟩
          · cases hx
          · exact ⟨_, _, hr, rep_bool _, by simpa using h⟩
      · exact h.elim
    · exact h.elim
  · exact h.elim
theorem ikeq_ok {k k' : IntKind} (h : ikeq k k' = true) : k = k' := by
  cases k <;> cases k' <;> first | rfl | (exact absurd h (by decide))
theorem toList_dec (a b : ByteArray) : (a.toList == b.toList) = decide (a = b) := by
  have : a.toList = b.toList ↔ a = b := by
    rw [ByteArray.toList_eq, ByteArray.toList_eq]
    refine ⟨fun h => ?_, fun h => by rw [h]⟩
    exact ByteArray.ext (Array.ext' h)
  by_cases h : a = b
  · simp [h]
  · have h' : ¬ a.toList = b.toList := fun e => h (this.1 e)
    simp [h, h']
theorem beq_dec (a b : Int) : (a == b) = decide (a = b) := by
  by_cases h : a = b <;> simp [h]
theorem ofInt_toNat {n : Nat} {a : Int} (h0 : 0 ≤ a) (h1 : a < 2 ^ n) : (BitVec.ofInt n a).toNat = a.toNat := by
  rw [BitVec.toNat_ofInt, Int.emod_eq_of_lt h0 (by exact_mod_cast h1)]
theorem vbin_ok {S : Nat → Prop} {H : Hp} {w : World} (dr : Bool) (op : BinOp) (cst : Bool) (t : TypeId) (x y : AV) (u v : Value) (K : AV → Prop) (hT : TOK P T)
    (h : vbin dr op cst (T.ti t) x y K) (hx : RepV S H w x u) (hy : RepV S H w y v) (X Y : Operand) (hc : cst = true → isc X = true ∨ isc Y = true) :
    ∃ r val, ((do eqGuard op t X Y u v; binOp op t u v) : Sem Value).run P w = .ok val w ∧ RepV S H w r val ∧ K r := by
  unfold vbin at h
  split at h
  case h_1 | h_2 =>
    obtain ⟨h0, r, rfl, hk⟩ := h
    simp only [RepV] at hx hy; subst hx hy
    refine ⟨_, _, ?_, rep_int _ _, hk⟩
    simp [eqGuard, binOp, Op.shift, Int.not_lt.2 h0]
  case h_3 | h_4 | h_5 =>
    rw [chk_iff] at h
    obtain ⟨hkk, r, rfl, hk⟩ := h
    have := ikeq_ok hkk; subst this
    simp only [RepV] at hx hy; subst hx hy
    refine ⟨_, _, ?_, rep_int _ _, hk⟩
    simp [eqGuard, binOp, Op.intArith]
  case h_6 | h_7 =>
    rw [chk_iff] at h
    obtain ⟨hkk, h0, r, rfl, hk⟩ := h
    have := ikeq_ok hkk; subst this
    simp only [RepV] at hx hy; subst hx hy
    refine ⟨_, _, ?_, rep_int _ _, hk⟩
    simp [eqGuard, binOp, Op.intDiv, h0]
  case h_8 | h_9 | h_10 | h_11 | h_12 | h_13 =>
    rw [chk_iff] at h
    obtain ⟨hkk, hk⟩ := h
    have := ikeq_ok hkk; subst this
    simp only [RepV] at hx hy; subst hx hy
    refine ⟨_, _, ?_, rep_bool _, hk⟩
    first
      | (simp [eqGuard, binOp, Op.intCmp]; done)
      | (simp [eqGuard, binOp, Op.intCmp]; exact beq_dec _ _)
      | (simp [eqGuard, binOp, Op.intCmp, bne]; rw [beq_dec])
  case h_14 | h_15 =>
    rw [chk_iff] at h
    obtain ⟨hkk, h0, h1, h2, h3, r, rfl, hk⟩ := h
    have := ikeq_ok hkk; subst this
    simp only [RepV] at hx hy; subst hx hy
    refine ⟨_, _, ?_, rep_int _ _, hk⟩
    simp only [eqGuard, binOp, Op.intBits, BitVec.toNat_or, BitVec.toNat_and, ofInt_toNat h0 h1, ofInt_toNat h2 h3]
    simp
  case h_16 =>
    obtain ⟨h0, hk⟩ := h
    rename_i a b
    simp only [RepV] at hx hy; subst hx hy
    refine ⟨_, _, ?_, rep_str _, hk⟩
    simp [eqGuard, binOp, Op.stringOp]
    omega
  case h_17 | h_18 | h_19 | h_20 =>
    simp only [RepV] at hx hy; subst hx hy
    refine ⟨_, _, ?_, rep_bool _, h⟩
    simp [eqGuard, binOp, Op.stringOp, toList_dec]
  case h_21 => exact veq_ok dr false cst t x y u v K hT h hx hy X Y hc
  case h_22 => exact veq_ok dr true cst t x y u v K hT h hx hy X Y hc
  case h_23 => exact h.elim
end Go.V
namespace Go.V
open Go.RowKit
variable {P : Program} {gl : Gl} {T : Tab}
theorem addr_add (b o k : Nat) : (⟨b, o, none⟩ : Addr).add k = ⟨b, o + k, none⟩ := by
  unfold Addr.add; split <;> simp_all
theorem addr_add2 (a : Addr) (n k : Nat) (h : a.spot = none) : (a.add n).add k = a.add (n + k) := by
  obtain ⟨b, o, s⟩ := a
  simp only at h; subst h
  simp [addr_add, Nat.add_assoc]
theorem cell_add2 {w : World} (a : Addr) (n k : Nat) : ∀ {u : Value}, w.cell? (a.add (n + k)) = some u → w.cell? ((a.add n).add k) = some u := by
  intro u h
  obtain ⟨b, o, s⟩ := a
  cases s with
  | none => rw [addr_add2 _ _ _ rfl]; exact h
  | some s =>
    by_cases hn : n = 0
    · subst hn; simpa [Addr.add] using h
    · unfold Addr.add at h ⊢
      rw [if_neg (by omega)] at h
      rw [if_neg hn]
      by_cases hk : k = 0
      · subst hk; simpa using h
      · rw [if_neg hk]; simpa [Nat.add_assoc] using h
theorem ti_ag (hT : TOK P T) (t : TypeId) (hk : (T.ti t).k ≠ .bad) (w : World) : (isAgg t).run P w = .ok (T.ti t).ag w := by
  have f := (hT.get hk).kind
  unfold TI.ag
  cases hu : P.underlying t with
  | none => rw [hu] at f; cases h : (T.ti t).k <;> rw [h] at f hk <;> simp [kok] at f hk
  | some d =>
    rw [hu] at f
    simp only [isAgg, Sem.run_bind, run_underlying hu, Result.andThen_ok]
    cases h : (T.ti t).k <;> rw [h] at f hk <;> cases d <;> first | (simp [kok] at f hk; done) | rfl
theorem ti_size (hT : TOK P T) (t : TypeId) (hk : (T.ti t).k ≠ .bad) (w : World) : (sizeOf t).run P w = .ok (T.ti t).size w := by
  have f := (hT.get hk).info
  cases hi : P.info? t with
  | none => rw [hi] at f; cases f
  | some i =>
    rw [hi] at f
    simp only [Option.map_some, Option.some.injEq, Prod.mk.injEq] at f
    simp [sizeOf, typeInfo, hi, f.2.1]
theorem rep_agg {S H w} {cs : List AV} {vs : List Value} (h1 : One vs) (h : RepL S H w cs vs) : RepV S H w (.agg cs) (.agg vs.toArray) := by
  simp only [RepV]; exact ⟨vs, rfl, h1, h⟩
theorem rep_tup {S H w} {cs : List AV} {vs : List Value} (h : RepL S H w cs vs) : RepV S H w (.tup cs) (.tuple vs.toArray) := by
  simp only [RepV]; exact ⟨vs, rfl, h⟩
def ldcB (ti : TI) (cs : List AV) (K : AV → Prop) : Bool → Prop
  | true => chk (Nat.ble ti.size cs.length) (K (.agg (cs.take ti.size)))
  | false => match cs with
    | x :: _ => K x
    | [] => False
theorem ldc_eq {ti : TI} (hk : ti.k ≠ .bad) (cs : List AV) (K : AV → Prop) : ldc ti cs K = ldcB ti cs K ti.ag := by
  unfold ldc
  split
  · contradiction
  · cases ti.ag <;> rfl
theorem ldc_ok (hT : TOK P T) {S : Nat → Prop} {H : Hp} {w : World} (t : TypeId) (a : Addr) {cs : List AV} {vs : List Value} {K : AV → Prop}
    (h : ldc (T.ti t) cs K) (hl : RepL S H w cs vs) (h1 : One vs) (hc : ∀ k u, vs[k]? = some u → w.cell? (a.add k) = some u) :
    ∃ r u, (loadVar t a).run P w = .ok u w ∧ RepV S H w r u ∧ K r := by
  have hk : (T.ti t).k ≠ .bad := by intro e; unfold ldc at h; rw [e] at h; exact h
  rw [ldc_eq hk] at h
  have hag := ti_ag hT t hk w
  cases hg : (T.ti t).ag with
  | true =>
    rw [hg] at h hag
    simp only [ldcB, chk_iff] at h
    obtain ⟨hb, hK⟩ := h
    have hle : (T.ti t).size ≤ cs.length := Nat.le_of_ble_eq_true hb
    have hlen := RepL.length hl
    have hcl : (loadCells a (vs.take (T.ti t).size).length).run P w = .ok (vs.take (T.ti t).size).toArray w :=
      run_loadCells_list (P := P) w a _ (fun j v hv => hc j v (by
        rw [List.getElem?_take] at hv; split at hv
        · exact hv
        · cases hv))
    have e : (vs.take (T.ti t).size).length = (T.ti t).size := by simp; omega
    rw [e] at hcl
    refine ⟨_, .agg (vs.take (T.ti t).size).toArray, ?_, rep_agg (fun u hu => h1 u (List.mem_of_mem_take hu)) (RepL.take _ hl), hK⟩
    simp [loadVar, hag, ti_size hT t hk w, hcl]
  | false =>
    rw [hg] at h hag
    cases cs with
    | nil => exact h.elim
    | cons x cs =>
      simp only [RepL] at hl
      obtain ⟨v, r, rfl, hv, _⟩ := hl
      have hc0 := hc 0 v rfl
      have e : a.add 0 = a := by simp [Addr.add]
      rw [e] at hc0
      refine ⟨x, v, ?_, hv, h⟩
      simp [loadVar, hag, hc0]
theorem box_cells {S B H w} (hok : HeapOK S B H w) {p : Nat} {t : TypeId} {cs : List AV} (h : getOb H.h p = .box t cs) :
    ∃ vs, RepL S H w cs vs ∧ One vs ∧ ∀ k u, vs[k]? = some u → w.cell? ⟨H.β p, k, none⟩ = some u := by
  obtain ⟨vs, hh, h1, hl, _⟩ := hok.box p t cs h
  refine ⟨vs, hl, h1, fun k u hu => ?_⟩
  rw [cell_of_row w _ k _ t (0, 0) hh]
  simpa using hu
theorem take_flatten {vss : List (List Value)} {sz : Nat} (hz : ∀ vs ∈ vss, vs.length = sz) : ∀ {i : Nat} {vs : List Value}, vss[i]? = some vs → ∀ {k : Nat} {u : Value}, vs[k]? = some u → vss.flatten[i * sz + k]? = some u := by
  induction vss with
  | nil => intro i vs hi; simp at hi
  | cons x r ih =>
    intro i vs hi k u hk
    have hx : x.length = sz := hz x (by simp)
    cases i with
    | zero =>
      simp at hi; subst hi
      have hlt : k < x.length := by
        rcases Nat.lt_or_ge k x.length with h | h
        · exact h
        · rw [List.getElem?_eq_none h] at hk; cases hk
      simp [List.getElem?_append_left hlt, hk]
    | succ i =>
      simp at hi
      have := ih (fun vs hv => hz vs (List.mem_cons_of_mem _ hv)) hi hk
      rw [List.flatten_cons, List.getElem?_append_right (by rw [hx, Nat.succ_mul]; omega)]
      rw [show (i + 1) * sz + k - x.length = i * sz + k by rw [hx, Nat.succ_mul]; omega]
      exact this
theorem row_cells {S : Nat → Prop} {w : World} {b cap e sz : Nat} {es : List (List AV)} (h : RowAt S w b cap e sz es) {i : Nat} {cs : List AV} (hi : es[i]? = some cs) :
    ∃ vs, RepL S H0 w cs vs ∧ One vs ∧ vs.length = sz ∧ ∀ k u, vs[k]? = some u → w.cell? ⟨b, i * sz + k, none⟩ = some u := by
  obtain ⟨cur, vss, hh, hcs, h0, hn, hm, hl, hz, ht⟩ := h
  obtain ⟨vs, hvi, hvs⟩ := RepLL.get hl hi
  have hmem := List.mem_of_getElem? hvi
  refine ⟨vs, hvs, (hz vs hmem).2, (hz vs hmem).1, fun k u hk => ?_⟩
  have hf := take_flatten (fun vs hv => (hz vs hv).1) hvi hk
  rw [← ht, List.getElem?_take] at hf
  rw [cell_of_row w b _ cur e (0, 0) hh]
  split at hf
  · simpa using hf
  · cases hf
theorem at_row {H : Hp} {p fz e sz es} (h : getOb H.h p = .row fz e sz es) : H.at p = some (some (sz, es.length)) := by simp [Hp.at, h, Ob.sz]
theorem at_box {H : Hp} {p t cs} (h : getOb H.h p = .box t cs) : H.at p = some (some (0, 0)) := by simp [Hp.at, h, Ob.sz]
theorem at_iter {H : Hp} {p x k} (h : getOb H.h p = .iter x k) : H.at p = some (some (0, 0)) := by simp [Hp.at, h, Ob.sz]
theorem at_kv {H : Hp} {p l} (h : getOb H.h p = .kv l) : H.at p = some (some (0, 0)) := by simp [Hp.at, h, Ob.sz]
theorem und_arr (hT : TOK P T) {t m e : Nat} (h : (T.ti t).k = .arr m e) : P.underlying t = some (.array m e) := by
  have f := (hT.get (t := t) (by rw [h]; simp)).kind
  rw [h] at f
  cases hu : P.underlying t with
  | none => rw [hu] at f; cases f
  | some d =>
    rw [hu] at f
    cases d <;> first | cases f | (simp [kok] at f; rw [f.1, f.2])
theorem sl_ok (hT : TOK P T) {t : TypeId} {K : Nat → TI → Prop} (h : T.sl t K) : ∃ e, P.underlying t = some (.slice e) ∧ (T.ti e).k ≠ .bad ∧ K e (T.ti e) := by
  unfold Tab.sl at h
  split at h
  · rename_i e hk
    split at h
    · exact h.elim
    · rename_i hne
      exact ⟨e, und_slice hT hk, fun eb => hne eb, h⟩
  · exact h.elim
theorem live_at {H : Hp} {p : Nat} (h : liveB (getOb H.h) p = true) : ∃ sz, H.at p = some (some sz) := by
  unfold liveB at h
  unfold Hp.at
  cases hg : getOb H.h p <;> rw [hg] at h <;> simp [Ob.sz] at h ⊢
theorem vload_ok (hT : TOK P T) {S B} {H : Hp} {w : World} (hok : HeapOK S B H w) (t : TypeId) {x : AV} {v : Value} {K : AV → Prop}
    (h : vload (T.ti t) (getOb H.h) x K) (hx : RepV S H w x v) : ∃ r u, (Instr.loadAt t v).run P w = .ok u w ∧ RepV S H w r u ∧ K r := by
  unfold vload at h
  split at h
  · rename_i cs
    simp only [RepV] at hx
    obtain ⟨a, rfl, _, _, vs, hl, h1, hc⟩ := hx
    obtain ⟨r, u, hr, hv, hK⟩ := ldc_ok hT t a h hl h1 hc
    exact ⟨r, u, by simpa [Instr.loadAt, Instr.sureAddr] using hr, RepV.plain hv, hK⟩
  · rename_i p c
    split at h
    · rename_i t' cs hg
      simp only [RepV] at hx
      have := hx.2.2 _ (at_box hg)
      subst this
      obtain ⟨vs, hl, h1, hc⟩ := box_cells hok hg
      obtain ⟨r, u, hr, hv, hK⟩ := ldc_ok hT t ⟨H.β p, c, none⟩ h (RepL.drop c hl) (fun u hu => h1 u (List.mem_of_mem_drop hu))
        (fun k u hk => by rw [addr_add]; rw [List.getElem?_drop] at hk; exact hc _ _ hk)
      exact ⟨r, u, by simpa [Instr.loadAt, Instr.sureAddr] using hr, hv, hK⟩
    · exact h.elim
  · rename_i p i c
    split at h
    · rename_i fz e sz es hg
      obtain ⟨cs, hi, h⟩ := h
      simp only [RepV] at hx
      have := hx.2.2 _ (at_row hg)
      subst this
      obtain ⟨vs, hl, h1, hz, hc⟩ := row_cells (hok.row p fz e sz es hg).1 hi
      obtain ⟨r, u, hr, hv, hK⟩ := ldc_ok hT t ⟨H.β p, i * sz + c, none⟩ h (RepL.drop c hl) (fun u hu => h1 u (List.mem_of_mem_drop hu))
        (fun k u hk => by rw [addr_add, Nat.add_assoc]; rw [List.getElem?_drop] at hk; exact hc _ _ hk)
      exact ⟨r, u, by simpa [Instr.loadAt, Instr.sureAddr] using hr, RepV.plain hv, hK⟩
    · exact h.elim
  · exact h.elim
end Go.V
namespace Go.V
open Go.RowKit
variable {P : Program} {gl : Gl} {T : Tab} {B : Base} {S : Nat → Prop} {H : Hp} {a : Act} {w : World} {E : Operand → AV} {n : Nat} {K : AV → List (Nat × Ob) → Prop} {dr : Bool}
theorem ok_move (hr : Opn gl B S H w E a) {o : Oper} {x : Operand} (ho : o.op = .move x ∨ o.op = .assign x) (h : K (E x) []) : Ok1 P gl B S H a w o K := by
  refine ok_val hr (u := a.eval x) ?_ h (hr.ev x)
  rcases ho with ho | ho <;> simp [execOp, ho]
theorem ok_pick (hr : Opn gl B S H w E a) {o : Oper} {c x y : Operand} (ho : o.op = .pick c x y) (h : vop P gl T dr o.op E (getOb H.h) n K) : Ok1 P gl B S H a w o K := by
  rw [ho] at h
  simp only [vop] at h
  have hc := hr.ev c
  split at h
  · rename_i t e; rw [e] at hc; simp only [RepV] at hc
    cases t with
    | true => exact ok_val hr (u := a.eval x) (by simp [execOp, ho, hc, asBool]) h (hr.ev x)
    | false => exact ok_val hr (u := a.eval y) (by simp [execOp, ho, hc, asBool]) h (hr.ev y)
  · exact h.elim
theorem ok_bin (hT : TOK P T) (hr : Opn gl B S H w E a) {o : Oper} {op : BinOp} {t ty : TypeId} {x y : Operand} (ho : o.op = .binOp op t x y ty) (h : vop P gl T dr o.op E (getOb H.h) n K) : Ok1 P gl B S H a w o K := by
  rw [ho] at h
  simp only [vop] at h
  obtain ⟨r, v, hv, hrep, hK⟩ := vbin_ok _ op _ t _ _ _ _ _ hT h (hr.ev x) (hr.ev y) x y (fun e => by simpa using e)
  refine ok_val hr (u := v) ?_ hK hrep
  simp only [execOp, ho]
  rw [Sem.run_bind, hv]; rfl
theorem ok_un (hr : Opn gl B S H w E a) {o : Oper} {op : UnOp} {t : TypeId} {x : Operand} (ho : o.op = .unOp op t x) (h : vop P gl T dr o.op E (getOb H.h) n K) : Ok1 P gl B S H a w o K := by
  rw [ho] at h
  have hx := hr.ev x
  cases op <;> simp only [vop] at h
  · split at h
    · rename_i e; rw [e] at hx; simp only [RepV] at hx
      obtain ⟨r, rfl, hK⟩ := h
      exact ok_val hr (by simp [execOp, ho, hx, Op.unary, Op.intArith]) hK (rep_int _ _)
    · exact h.elim
  · split at h
    · rename_i e; rw [e] at hx; simp only [RepV] at hx
      exact ok_val hr (u := .bool _) (by simp [execOp, ho, hx, Op.unary]) h (rep_bool _)
    · exact h.elim
theorem ok_load (hT : TOK P T) (hr : Opn gl B S H w E a) {o : Oper} {t : TypeId} {x : Operand} (ho : o.op = .load t x) (h : vop P gl T dr o.op E (getOb H.h) n K) : Ok1 P gl B S H a w o K := by
  rw [ho] at h
  simp only [vop] at h
  obtain ⟨r, u, hv, hrep, hK⟩ := vload_ok hT hr.wd.ok t h (hr.ev x)
  exact ok_val hr (by simp [execOp, ho, hv]) hK hrep
theorem ok_nil (hr : Opn gl B S H w E a) {o : Oper} {x : Operand} (ho : o.op = .nilCheck x) (h : vop P gl T dr o.op E (getOb H.h) n K) : Ok1 P gl B S H a w o K := by
  rw [ho] at h
  simp only [vop] at h
  have hx := hr.ev x
  split at h
  · rename_i p c e
    have hx' := hx
    rw [e] at hx hx'; simp only [RepV] at hx
    simp only [chk_iff] at h
    obtain ⟨sz, hat⟩ := live_at h.1
    refine ok_val hr (u := a.eval x) ?_ h.2 hx'
    rw [hx.2.2 sz hat]
    simp [execOp, ho, hx.2.2 sz hat]
  · rename_i cs e
    have hx' := hx
    rw [e] at hx hx'; simp only [RepV] at hx
    obtain ⟨ad, hv, _⟩ := hx
    refine ok_val hr (u := .pointer (some ad)) (by simp [execOp, ho, hv]) h (by rw [← hv]; exact hx')
  · exact h.elim
theorem ok_mkI (hT : TOK P T) (hr : Opn gl B S H w E a) {o : Oper} {t : TypeId} {x : Operand} (ho : o.op = .makeInterface t x) (h : vop P gl T dr o.op E (getOb H.h) n K) : Ok1 P gl B S H a w o K := by
  rw [ho] at h
  simp only [vop] at h
  have hx := hr.ev x
  split at h
  · exact h.elim
  · exact h.elim
  · rename_i h1 h2
    have f := (hT.get (t := t) (fun e => h1 e)).kind
    refine ok_val hr (u := .iface t (a.eval x)) ?_ h (by simp only [RepV]; exact ⟨_, rfl, hx⟩)
    cases hu : P.underlying t with
    | none => rw [hu] at f; cases hk : (T.ti t).k <;> rw [hk] at f h1 <;> simp [kok] at f h1
    | some d =>
      rw [hu] at f
      simp only [execOp, ho, Instr.makeInterface, Sem.run_bind, run_underlying hu, Result.andThen_ok]
      cases hk : (T.ti t).k <;> rw [hk] at f h1 h2 <;> cases d <;> first | (simp [kok] at f; done) | (simp at h1; done) | (simp at h2; done) | rfl
theorem ok_fn (hr : Opn gl B S H w E a) {o : Oper} {f : FuncId} {fi cap : Array Operand} (hfi : fi = #[]) (ho : o.op = .makeFunc (.func f) fi cap) (h : K (.fn f (cap.toList.map E)) []) : Ok1 P gl B S H a w o K := by
  subst hfi
  refine ok_val hr (u := .func (.func f) #[] (cap.map a.eval)) (by simp [execOp, ho, Instr.makeFunc]) h ?_
  simp only [RepV]
  refine ⟨(cap.map a.eval).toList, by rw [Array.toArray_toList], ?_⟩
  simp only [Array.toList_map]
  induction cap.toList with
  | nil => rfl
  | cons x r ih => simp only [List.map_cons, RepL]; exact ⟨_, _, rfl, hr.ev x, ih⟩
theorem ok_extract (hr : Opn gl B S H w E a) {o : Oper} {x : Operand} {i : Nat} (ho : o.op = .extract x i) (h : vop P gl T dr o.op E (getOb H.h) n K) : Ok1 P gl B S H a w o K := by
  rw [ho] at h
  simp only [vop] at h
  have hx := hr.ev x
  split at h
  · rename_i cs e
    rw [e] at hx; simp only [RepV] at hx
    obtain ⟨vs, hv, hl⟩ := hx
    split at h
    · rename_i c hc
      obtain ⟨u, hu, hrep⟩ := RepL.get hl hc
      exact ok_val hr (u := u) (by simp [execOp, ho, hv, Instr.extract, hu]) h hrep
    · exact h.elim
  · exact h.elim
end Go.V
namespace Go.V
open Go.RowKit
variable {P : Program} {gl : Gl} {T : Tab} {B : Base} {S : Nat → Prop} {H : Hp} {a : Act} {w : World} {E : Operand → AV} {n : Nat} {K : AV → List (Nat × Ob) → Prop} {dr : Bool}
theorem und_strc (hT : TOK P T) {t : TypeId} {fs : List (Nat × Nat × Bool)} (h : (T.ti t).k = .strc fs) : ∃ fl : Array Field, P.underlying t = some (.struct fl) ∧
    (∀ (i off n : Nat) (ag : Bool), fs[i]? = some (off, n, ag) → ∃ f : Field, fl[i]? = some f ∧ f.offset = off ∧ (∀ w, (sizeOf f.type).run P w = .ok n w) ∧ ∀ w, (isAgg f.type).run P w = .ok ag w) ∧ fs.length = fl.size := by
  have f := (hT.get (t := t) (by rw [h]; simp)).kind
  rw [h] at f
  cases hu : P.underlying t with
  | none => rw [hu] at f; cases f
  | some d =>
    rw [hu] at f
    cases d with
    | struct fl =>
      simp only [kok, Bool.and_eq_true, beq_iff_eq, List.all_eq_true] at f
      obtain ⟨f1, f2⟩ := f
      refine ⟨fl, rfl, ?_, by rw [← f1]; simp⟩
      intro i off n ag hi
      rw [← f1, List.getElem?_map] at hi
      cases hfi : fl.toList[i]? with
      | none => rw [hfi] at hi; cases hi
      | some fd =>
        rw [hfi] at hi
        simp only [Option.map_some, Option.some.injEq, Prod.mk.injEq] at hi
        obtain ⟨e1, e2, e3⟩ := hi
        have hs := f2 fd (List.mem_of_getElem? hfi)
        obtain ⟨hs, hs2⟩ := hs
        cases hi2 : P.info? fd.type with
        | none => rw [hi2] at hs; cases hs
        | some ti =>
          rw [hi2] at e2
          refine ⟨fd, by simpa using hfi, e1, fun w => by simp [sizeOf, typeInfo, hi2]; simpa using e2, fun w => ?_⟩
          cases hud : P.underlying fd.type with
          | none => rw [hud] at hs2; cases hs2
          | some d =>
            rw [hud] at e3
            simp only [isAgg, Sem.run_bind, run_underlying hud, Result.andThen_ok]
            cases d <;> simp at e3 <;> subst e3 <;> rfl
    | _ => cases f
theorem ok_field (hT : TOK P T) (hr : Opn gl B S H w E a) {o : Oper} {t : TypeId} {x : Operand} {i : Nat} (ho : o.op = .field t x i) (h : vop P gl T dr o.op E (getOb H.h) n K) : Ok1 P gl B S H a w o K := by
  rw [ho] at h
  simp only [vop] at h
  have hx := hr.ev x
  split at h
  · rename_i fs hk
    obtain ⟨fl, hu, hf, hlen⟩ := und_strc hT hk
    split at h
    · rename_i off n ag hi
      obtain ⟨fd, hfd, hoff, hsz, hag⟩ := hf i off n ag hi
      split at h
      · rename_i cs e
        rw [e] at hx; simp only [RepV] at hx
        obtain ⟨vs, hv, h1, hl⟩ := hx
        simp only [chk_iff] at h
        obtain ⟨hle, h⟩ := h
        have hle := Nat.le_of_ble_eq_true hle
        have hlv := RepL.length hl
        split at h
        · refine ok_val hr (u := .agg ((vs.drop off).take n).toArray) ?_ h (rep_agg (fun u hu => h1 u (List.mem_of_mem_drop (List.mem_of_mem_take hu))) (RepL.take _ (RepL.drop _ hl)))
          have e2 : (vs.toArray).extract off (off + n) = ((vs.drop off).take n).toArray := by simp [List.take_drop, Nat.add_comm]
          simp [execOp, ho, hv, Instr.field, run_underlying hu, hfd, asAgg, part, hag, hsz, hoff, e2]
        · have hd := RepL.drop off hl
          split at h
          · rename_i c r e3
            rw [e3] at hd
            simp only [RepL] at hd
            obtain ⟨v, r', e4, hvr, _⟩ := hd
            have hget : vs.toArray[off]? = some v := by
              have := congrArg (fun l : List Value => l[0]?) e4
              simpa using this
            refine ok_val hr (u := v) ?_ h hvr
            simp [execOp, ho, hv, Instr.field, run_underlying hu, hfd, asAgg, part, hag, hoff, hget]
            have hg2 : vs[off]? = some v := by simpa using hget
            simp [hg2]
          · exact h.elim
      · exact h.elim
    · exact h.elim
  · exact h.elim
theorem ok_fieldAddr (hT : TOK P T) (hr : Opn gl B S H w E a) {o : Oper} {t : TypeId} {x : Operand} {i : Nat} (ho : o.op = .fieldAddr t x i) (h : vop P gl T dr o.op E (getOb H.h) n K) : Ok1 P gl B S H a w o K := by
  rw [ho] at h
  simp only [vop] at h
  have hx := hr.ev x
  split at h
  · rename_i fs hk
    obtain ⟨fl, hu, hf, hlen⟩ := und_strc hT hk
    split at h
    · rename_i off n ag hi
      obtain ⟨fd, hfd, hoff, hsz, hag⟩ := hf i off n ag hi
      simp only [chk_iff] at h
      obtain ⟨hn, h⟩ := h
      have hn : ¬ n = 0 := by simp at hn; omega
      have hrun : ∀ ad : Addr, a.eval x = .pointer (some ad) → (execOp a.eval o).run P w = .ok (.value (.pointer (some (ad.add off)))) w := fun ad hv => by
        simp [execOp, ho, hv, Instr.fieldAt, run_underlying hu, hfd, Instr.sureAddr, fieldPlace, hsz, hn, hoff]
      split at h
      · rename_i cs e
        rw [e] at hx; simp only [RepV] at hx
        obtain ⟨ad, hv, hs, hb, vs, hl, h1, hc⟩ := hx
        refine ok_val hr (hrun ad hv) h.2 ?_
        have hbk : (ad.add off).block = ad.block := by unfold Addr.add; split <;> rfl
        simp only [RepV]
        exact ⟨ad.add off, rfl, by rw [hbk]; exact hs, by rw [hbk]; exact hb, vs.drop off, RepL.drop _ hl, fun u hu => h1 u (List.mem_of_mem_drop hu), fun k u hk => cell_add2 _ _ _ (hc _ _ (by rw [List.getElem?_drop] at hk; exact hk))⟩
      · rename_i p c e
        rw [e] at hx; simp only [RepV] at hx
        obtain ⟨sz, hat⟩ := live_at h.1
        have hv := hx.2.2 sz hat
        refine ok_val hr (hrun _ hv) h.2 ?_
        simp only [RepV, addr_add]
        exact ⟨rfl, hx.2.1, fun _ _ => trivial⟩
      · rename_i p i' c e
        rw [e] at hx; simp only [RepV] at hx
        obtain ⟨sz, hat⟩ := live_at h.1
        have hv := hx.2.2 sz hat
        refine ok_val hr (hrun _ hv) h.2 ?_
        simp only [RepV, addr_add]
        exact ⟨rfl, hx.2.1, fun sz' hs => by rw [hat] at hs; cases hs; rw [Nat.add_assoc]⟩
      · exact h.elim
    · exact h.elim
  · exact h.elim
end Go.V
namespace Go.V
open Go.RowKit
variable {P : Program} {gl : Gl} {T : Tab} {B : Base} {S : Nat → Prop} {H : Hp} {a : Act} {w : World} {E : Operand → AV} {n : Nat} {K : AV → List (Nat × Ob) → Prop} {dr : Bool}
theorem ok_indexAddr (hT : TOK P T) (hr : Opn gl B S H w E a) {o : Oper} {t : TypeId} {x i : Operand} (ho : o.op = .indexAddr t x i) (h : vop P gl T dr o.op E (getOb H.h) n K) : Ok1 P gl B S H a w o K := by
  rw [ho] at h
  simp only [vop] at h
  have hx := hr.ev x
  have hi := hr.ev i
  split at h
  · rename_i k n e
    rw [e] at hi; simp only [RepV] at hi
    unfold viaddr at h
    split at h
    · rename_i m el hk
      have hu := und_arr hT hk
      split at h
      · exact h.elim
      · rename_i hne
        have hke : (T.ti el).k ≠ .bad := fun e => hne e
        have hsize := ti_size hT el hke w
        have hrun : ∀ (ad : Addr) (j : Nat), a.eval x = .pointer (some ad) → n = j → j < m → (execOp a.eval o).run P w = .ok (.value (.pointer (some (ad.add (j * (T.ti el).size))))) w := fun ad j hv hj hlt => by
          subst hj
          have : (0 : Int) ≤ (j : Int) ∧ (j : Int) < (m : Int) := by omega
          simp [execOp, ho, hv, hi, Instr.indexAt, asIntOf, run_underlying hu, this, hsize, Instr.sureAddr]
          intro hge
          exact absurd hlt (by omega)
        split at h
        · rename_i cs e
          obtain ⟨j, hj, hlt, h⟩ := h
          rw [e] at hx; simp only [RepV] at hx
          obtain ⟨ad, hv, hs, hb, vs, hl, h1, hc⟩ := hx
          refine ok_val hr (hrun ad j hv hj hlt) h ?_
          have hbk : (ad.add (j * (T.ti el).size)).block = ad.block := by unfold Addr.add; split <;> rfl
          simp only [RepV]
          exact ⟨_, rfl, by rw [hbk]; exact hs, by rw [hbk]; exact hb, vs.drop _, RepL.drop _ hl, fun u hu => h1 u (List.mem_of_mem_drop hu), fun k u hk => cell_add2 _ _ _ (hc _ _ (by rw [List.getElem?_drop] at hk; exact hk))⟩
        · rename_i p c e
          rw [chk_iff] at h
          obtain ⟨hlv, j, hj, hlt, h⟩ := h
          rw [e] at hx; simp only [RepV] at hx
          obtain ⟨sz, hat⟩ := live_at hlv
          have hv := hx.2.2 sz hat
          refine ok_val hr (hrun _ j hv hj hlt) h ?_
          simp only [RepV, addr_add]
          exact ⟨rfl, hx.2.1, fun _ _ => trivial⟩
        · exact h.elim
    obtain ⟨el, hu, hke, h⟩ := sl_ok hT h
    have hsize := ti_size hT el hke w
    split at h
    · rename_i sz es e2
      simp only [chk_iff] at h
      obtain ⟨hsz, m, cs, rfl, hm, h⟩ := h
      have hsz := Nat.eq_of_beq_eq_true hsz
      subst hsz
      rw [e2] at hx; simp only [RepV] at hx
      obtain ⟨A, c, hv, hc, hmx, hcases⟩ := hx
      rcases hcases with rfl | ⟨ad, rfl, hs, hb, vss, hl, hz, hcell⟩
      · simp at hm
      have hlt : m < es.length := (List.getElem?_eq_some_iff.1 hm).1
      obtain ⟨vs, hvi, hvs⟩ := RepLL.get hl hm
      have hmem := List.mem_of_getElem? hvi
      refine ok_val hr (u := .pointer (some (ad.add (m * (T.ti el).size)))) ?_ h ?_
      · have : (0 : Int) ≤ (m : Int) ∧ (m : Int) < (es.length : Int) := by omega
        simp [execOp, ho, hv, hi, Instr.indexAt, asIntOf, run_underlying hu, this, hsize]
        intro hge
        exact absurd hlt (by omega)
      · have hbk : (ad.add (m * (T.ti el).size)).block = ad.block := by unfold Addr.add; split <;> rfl
        simp only [RepV]
        exact ⟨ad.add (m * (T.ti el).size), rfl, by rw [hbk]; exact hs, by rw [hbk]; exact hb, vs, hvs, (hz vs hmem).2, fun k u hk => cell_add2 _ _ _ (hcell m vs hvi k u hk)⟩
    · rename_i p off len e2
      split at h
      · rename_i fz e' sz es hg
        simp only [chk_iff] at h
        obtain ⟨hsz, m, rfl, hm, h⟩ := h
        have hsz := Nat.eq_of_beq_eq_true hsz
        subst hsz
        have hat := at_row hg
        rw [e2] at hx; simp only [RepV] at hx
        obtain ⟨hv, hle⟩ := hx.2.2 _ hat
        refine ok_val hr (u := .pointer (some ⟨H.β p, (off + m) * (T.ti el).size, none⟩)) ?_ h ?_
        · have : (0 : Int) ≤ (m : Int) ∧ (m : Int) < (len : Int) := by omega
          simp [execOp, ho, hv, hi, Instr.indexAt, asIntOf, run_underlying hu, this, hsize, addr_add, Nat.add_mul]
          intro hge
          exact absurd hm (by omega)
        · simp only [RepV]
          exact ⟨rfl, hx.2.1, fun sz' hs => by rw [hat] at hs; cases hs; simp⟩
      · exact h.elim
    · exact h.elim
  · exact h.elim
theorem ok_index (hT : TOK P T) (hr : Opn gl B S H w E a) {o : Oper} {t : TypeId} {x i : Operand} (ho : o.op = .index t x i) (h : vop P gl T dr o.op E (getOb H.h) n K) : Ok1 P gl B S H a w o K := by
  rw [ho] at h
  simp only [vop] at h
  have hx := hr.ev x
  have hi := hr.ev i
  split at h
  · rename_i k n e
    rw [e] at hi; simp only [RepV] at hi
    split at h
    · rename_i s hk e2
      have hu := und_str hT hk
      rw [e2] at hx; simp only [RepV] at hx
      obtain ⟨m, c, rfl, hm, h⟩ := h
      have hc : s[m]? = some c := by
        have : s.toList = s.data.toList := ByteArray.toList_eq s
        rw [this] at hm
        have h2 : s.data[m]? = some c := by simpa using hm
        have hlt := (Array.getElem?_eq_some_iff.1 h2).1
        have : m < s.size := hlt
        rw [getElem?_pos s m this]
        have h3 := (Array.getElem?_eq_some_iff.1 h2).2
        exact congrArg some h3
      refine ok_val hr (u := .int .u8 c.toNat) ?_ h (rep_int _ _)
      simp [execOp, ho, hx, hi, Instr.index, asIntOf, run_underlying hu, hc]
    · exact h.elim
  · exact h.elim
theorem ok_len (hT : TOK P T) (hr : Opn gl B S H w E a) {o : Oper} {args : Array Operand} {ats : Array TypeId} (ho : o.op = .call { callee := .builtin .len, args, argTypes := ats }) (h : vop P gl T dr o.op E (getOb H.h) n K) : Ok1 P gl B S H a w o K := by
  rw [ho] at h
  simp only [vop] at h
  split at h
  · rename_i x t ea et
    have ea : args = #[x] := by rw [← Array.toArray_toList (xs := args), ea]
    have et : ats = #[t] := by rw [← Array.toArray_toList (xs := ats), et]
    subst ea et
    have hx := hr.ev x
    have run : ∀ (d : TypeDesc) (v : Value) (n : Int), P.underlying t = some d → a.eval x = v → (Builtin.len_ #[t] o.type #[v]).run P w = .ok (.int .i64 n) w →
        (execOp a.eval o).run P w = .ok (.value (.int .i64 n)) w := fun d v n hd hv hrun => by
      simp [execOp, ho, resolve, invoke, builtin, hv, hrun]
    unfold vlen at h
    split at h
    · rename_i hk
      have hu := und_str hT hk
      split at h
      · rename_i s e
        rw [e] at hx; simp only [RepV] at hx
        exact ok_val hr (run _ _ _ hu hx (by simp [Builtin.len_, run_underlying hu, goInt])) h (rep_int _ _)
      · exact h.elim
    · rename_i el hk
      have hu := und_slice hT hk
      split at h
      · rename_i sz es e
        rw [e] at hx; simp only [RepV] at hx
        obtain ⟨A, c, hv, _⟩ := hx
        exact ok_val hr (run _ _ _ hu hv (by simp [Builtin.len_, run_underlying hu, goInt])) h (rep_int _ _)
      · rename_i e
        rw [e] at hx; simp only [RepV] at hx
        exact ok_val hr (run _ _ _ hu hx (by simp [Builtin.len_, run_underlying hu, goInt])) h (rep_int _ _)
      · rename_i p off len e
        simp only [chk_iff] at h
        obtain ⟨sz, hat⟩ := live_at h.1
        rw [e] at hx; simp only [RepV] at hx
        exact ok_val hr (run _ _ _ hu (hx.2.2 sz hat).1 (by simp [Builtin.len_, run_underlying hu, goInt])) h.2 (rep_int _ _)
      · exact h.elim
    · exact h.elim
  · exact h.elim
theorem ok_min (hr : Opn gl B S H w E a) {o : Oper} {args : Array Operand} {ats : Array TypeId} (ho : o.op = .call { callee := .builtin .min, args, argTypes := ats }) (h : vop P gl T dr o.op E (getOb H.h) n K) : Ok1 P gl B S H a w o K := by
  rw [ho] at h
  simp only [vop] at h
  split at h
  · rename_i x y ea
    have ea : args = #[x, y] := by rw [← Array.toArray_toList (xs := args), ea]
    subst ea
    have hx := hr.ev x
    have hy := hr.ev y
    split at h
    · rename_i k m k' n e1 e2
      obtain ⟨rfl, r, rfl, h⟩ := h
      rw [e1] at hx; rw [e2] at hy; simp only [RepV] at hx hy
      exact ok_val hr (u := .int k _) (by simp [execOp, ho, resolve, invoke, builtin, hx, hy, Builtin.min_, Builtin.min2]) h (rep_int _ _)
    · exact h.elim
  · exact h.elim
theorem ok_max (hr : Opn gl B S H w E a) {o : Oper} {args : Array Operand} {ats : Array TypeId} (ho : o.op = .call { callee := .builtin .max, args, argTypes := ats }) (h : vop P gl T dr o.op E (getOb H.h) n K) : Ok1 P gl B S H a w o K := by
  rw [ho] at h
  simp only [vop] at h
  split at h
  · rename_i x y ea
    have ea : args = #[x, y] := by rw [← Array.toArray_toList (xs := args), ea]
    subst ea
    have hx := hr.ev x
    have hy := hr.ev y
    split at h
    · rename_i k m k' n e1 e2
      obtain ⟨rfl, r, rfl, h⟩ := h
      rw [e1] at hx; rw [e2] at hy; simp only [RepV] at hx hy
      exact ok_val hr (u := .int k _) (by simp [execOp, ho, resolve, invoke, builtin, hx, hy, Builtin.max_, Builtin.max2]) h (rep_int _ _)
    · exact h.elim
  · exact h.elim
end Go.V
namespace Go.V
open Go.RowKit
variable {P : Program} {gl : Gl} {T : Tab} {B : Base} {S : Nat → Prop} {H : Hp} {a : Act} {w : World} {E : Operand → AV} {n : Nat} {K : AV → List (Nat × Ob) → Prop} {dr : Bool}
theorem bnd_ok (hr : Opn gl B S H w E a) {x : Option Operand} {d : Int} {K : Int → Prop} (h : bnd (x.map E) d K) :
    ∃ n, K n ∧ ((x = none ∧ n = d) ∨ ∃ y k, x = some y ∧ a.eval y = .int k n) := by
  cases x with
  | none => exact ⟨d, h, .inl ⟨rfl, rfl⟩⟩
  | some y =>
    simp only [Option.map_some, bnd] at h
    split at h
    · rename_i e; cases e
    · rename_i k n e
      have hy := hr.ev y
      have e' : E y = .int k n := by simpa using e
      rw [e'] at hy; simp only [RepV] at hy
      exact ⟨n, h, .inr ⟨y, k, rfl, hy⟩⟩
    · exact h.elim
theorem bound_run {w : World} {k : IntKind} {n : Int} {y : Nat} (code : BoundsCode) (h0 : 0 ≤ n) (h1 : n ≤ y) : (Instr.sliceBound (.int k n) y code).run P w = .ok n.toNat w := by
  simp [Instr.sliceBound, asIntOf, h0, h1]
theorem bounds_run (isS : Bool) {w : World} {a : Act} {lo hi : Option Operand} {l u : Int} {len cap : Nat}
    (hlo : (lo = none ∧ l = 0) ∨ ∃ y k, lo = some y ∧ a.eval y = .int k l) (hhi : (hi = none ∧ u = len) ∨ ∃ y k, hi = some y ∧ a.eval y = .int k u)
    (h0 : 0 ≤ l) (h1 : l ≤ u) (h2 : u ≤ len) (hc : len ≤ cap) :
    (Instr.sliceBounds isS len cap (lo.map a.eval) (hi.map a.eval) none).run P w = .ok (l.toNat, u.toNat, cap) w := by
  have hu : ∀ code, u ≤ (cap : Int) := fun _ => by omega
  rcases hhi with ⟨rfl, rfl⟩ | ⟨y, k, rfl, hy⟩ <;> rcases hlo with ⟨rfl, rfl⟩ | ⟨z, k', rfl, hz⟩ <;>
    simp [Instr.sliceBounds, *, bound_run]
  all_goals (have h3 : ((u.toNat : Nat) : Int) = u := by omega)
  · rw [bound_run _ (by omega) (by omega)]; simp
  · rw [bound_run _ (by omega) (by omega)]; simp [bound_run _ h0 (by omega : l ≤ ((u.toNat : Nat) : Int))]
theorem ok_slice (hT : TOK P T) (hr : Opn gl B S H w E a) {o : Oper} {t : TypeId} {x : Operand} {lo hi : Option Operand} (ho : o.op = .slice t x lo hi none) (h : vop P gl T dr o.op E (getOb H.h) n K) : Ok1 P gl B S H a w o K := by
  rw [ho] at h
  simp only [vop] at h
  have hx := hr.ev x
  unfold vslice at h
  split at h
  · rename_i hk
    have hu := und_str hT hk
    split at h
    · rename_i s e
      rw [e] at hx; simp only [RepV] at hx
      obtain ⟨l, h, hl⟩ := bnd_ok hr h
      obtain ⟨u, ⟨h0, h1, h2, r, rfl, hK⟩, hh⟩ := bnd_ok hr h
      refine ok_val hr (u := .string _) ?_ hK (rep_str _)
      have hb := bounds_run (P := P) false (w := w) hl hh h0 h1 h2 (Nat.le_refl _)
      simp [execOp, ho, hx, Instr.sliceAt, Instr.slice, run_underlying hu, hb]
    · exact h.elim
  · obtain ⟨el, hu, hke, h⟩ := sl_ok hT h
    have hsize := ti_size hT el hke w
    split at h
    · rename_i sz es e
      rw [e] at hx; simp only [RepV] at hx
      simp only [chk_iff] at h
      obtain ⟨hsz, h⟩ := h
      have hsz := Nat.eq_of_beq_eq_true hsz
      subst hsz
      obtain ⟨l, h, hl⟩ := bnd_ok hr h
      obtain ⟨u, ⟨h0, h1, h2, r, rfl, hK⟩, hh⟩ := bnd_ok hr h
      obtain ⟨A, c, hv, hc, hmx, hcases⟩ := hx
      have hb := bounds_run (P := P) true (w := w) hl hh h0 h1 h2 hc
      refine ok_val hr (u := .slice (if c = l.toNat then A else A.map (·.add (l.toNat * (T.ti el).size))) (u.toNat - l.toNat) (c - l.toNat)) ?_ hK ?_
      · simp [execOp, ho, hv, Instr.sliceAt, Instr.slice, run_underlying hu, hb, hsize]
      · have hlen : ((es.drop l.toNat).take (u.toNat - l.toNat)).length = u.toNat - l.toNat := by simp; omega
        simp only [RepV]
        refine ⟨_, _, by rw [hlen], by rw [hlen]; omega, by omega, ?_⟩
        rcases hcases with rfl | ⟨ad, rfl, hs, hbk, vss, hll, hz, hcell⟩
        · left; simp
        · by_cases hlu : l < u
          · right
            have hne : ¬ c = l.toNat := by omega
            have hbk' : (ad.add (l.toNat * (T.ti el).size)).block = ad.block := by unfold Addr.add; split <;> rfl
            refine ⟨ad.add (l.toNat * (T.ti el).size), by simp [hne], by rw [hbk']; exact hs, by rw [hbk']; exact hbk, (vss.drop l.toNat).take (u.toNat - l.toNat), RepLL.take _ (RepLL.drop _ hll), fun vs hvs => hz vs (List.mem_of_mem_drop (List.mem_of_mem_take hvs)), fun i vs hi k x hk => ?_⟩
            rw [List.getElem?_take] at hi
            split at hi
            · rw [List.getElem?_drop] at hi
              refine cell_add2 _ _ _ ?_
              have := hcell _ vs hi k x hk
              rw [Nat.add_mul] at this
              rwa [Nat.add_assoc] at this
            · cases hi
          · left
            have : u.toNat - l.toNat = 0 := by omega
            simp [this]
    · rename_i e
      rw [e] at hx; simp only [RepV] at hx
      obtain ⟨l, h, hl⟩ := bnd_ok hr h
      obtain ⟨u, ⟨rfl, rfl, hK⟩, hh⟩ := bnd_ok hr h
      have hb := bounds_run (P := P) true (w := w) (len := 0) (cap := 0) hl hh (Int.le_refl _) (Int.le_refl _) (by simp) (Nat.le_refl _)
      refine ok_val hr (u := .slice none 0 0) ?_ hK (by simp [RepV])
      simp [execOp, ho, hx, Instr.sliceAt, Instr.slice, run_underlying hu, hb, hsize]
    · rename_i p off len e
      split at h
      · rename_i fz e' sz es hg
        simp only [chk_iff] at h
        obtain ⟨hsz, h⟩ := h
        have hsz := Nat.eq_of_beq_eq_true hsz
        subst hsz
        have hat := at_row hg
        rw [e] at hx; simp only [RepV] at hx
        obtain ⟨hv, hle'⟩ := hx.2.2 _ hat
        have hle : off + len ≤ H.κ p := by
          obtain ⟨⟨_, _, _, _, _, hcap, _⟩, _⟩ := hr.wd.ok.row p fz e' _ es hg
          simp only at hle'; omega
        obtain ⟨l, h, hl⟩ := bnd_ok hr h
        obtain ⟨u, ⟨h0, h1, h2, h3, o', n', e1, e2, hK⟩, hh⟩ := bnd_ok hr h
        have hb := bounds_run (P := P) true (w := w) hl hh h0 h1 h2 (by omega : len ≤ H.κ p - off)
        refine ok_val hr (u := .slice (some ⟨H.β p, o' * (T.ti el).size, none⟩) n' (H.κ p - o')) ?_ hK ?_
        · simp only [execOp, ho, hv, Instr.sliceAt, Instr.slice, run_underlying hu, hb, hsize, Sem.run_bind, Option.map_none, Result.andThen_ok, Sem.run_pure]
          have e3 : u.toNat - l.toNat = n' := by omega
          have e4 : H.κ p - off - l.toNat = H.κ p - o' := by omega
          have e5 : o' = off + l.toNat := by omega
          rw [e3, e4]
          by_cases hcl : H.κ p - off = l.toNat
          · have hl0 : o' = off := by omega
            rw [if_pos hcl, hl0]
          · rw [if_neg hcl, e5, Nat.add_mul]
            simp only [Option.map_some, addr_add]
        · simp only [RepV]
          refine ⟨rfl, hx.2.1, fun sz' hs => ?_⟩
          rw [hat] at hs; cases hs
          exact ⟨rfl, by omega⟩
      · exact h.elim
    · exact h.elim
end Go.V
namespace Go.V
open Go.RowKit
variable {P : Program} {gl : Gl} {T : Tab} {B : Base} {S : Nat → Prop} {H : Hp} {a : Act} {w : World} {E : Operand → AV} {n : Nat} {K : AV → List (Nat × Ob) → Prop} {dr : Bool}
theorem cells_rep {S H w} {n : Nat} {x : AV} {v : Value} (h : szOK n x = true) (hx : RepV S H w x v) :
    ∃ vs : List Value, v.cells = vs.toArray ∧ vs.length = n ∧ One vs ∧ RepL S H w (cells x) vs ∧ n ≠ 0 := by
  unfold szOK at h
  simp only [Bool.and_eq_true, Bool.not_eq_true'] at h
  obtain ⟨h1, h2⟩ := h
  have h1 := Nat.eq_of_beq_eq_true h1
  have h2 := Nat.ne_of_beq_eq_false h2
  have one : ∀ v : Value, RepV S H w x v → (cells x) = [x] → v.oneCell' = true → ∃ vs : List Value, v.cells = vs.toArray ∧ vs.length = n ∧ One vs ∧ RepL S H w (cells x) vs ∧ n ≠ 0 := fun v hv hc ho => by
    refine ⟨[v], ?_, by rw [hc] at h1; simpa using h1, by intro u hu; simp at hu; subst hu; exact ho, by rw [hc]; simp only [RepL]; exact ⟨v, [], rfl, hv, rfl⟩, h2⟩
    cases v <;> first | rfl | simp [Value.oneCell'] at ho
  cases x with
  | agg cs =>
    simp only [RepV] at hx
    obtain ⟨vs, rfl, ho, hl⟩ := hx
    exact ⟨vs, rfl, by rw [RepL.length hl]; exact h1, ho, hl, h2⟩
  | j => simp [cells] at h1; exact absurd h1.symm h2
  | u => simp [cells] at h1; exact absurd h1.symm h2
  | tup cs => simp [cells] at h1; exact absurd h1.symm h2
  | fr e sz es => simp [cells] at h1; exact absurd h1.symm h2
  | int k m => have e : v = .int k m := by simpa [RepV] using hx
               exact one v hx rfl (by rw [e]; rfl)
  | bool b => have e : v = .bool b := by simpa [RepV] using hx
              exact one v hx rfl (by rw [e]; rfl)
  | str b => have e : v = .string b := by simpa [RepV] using hx
             exact one v hx rfl (by rw [e]; rfl)
  | nils => have e : v = .slice none 0 0 := by simpa [RepV] using hx
            exact one v hx rfl (by rw [e]; rfl)
  | nili => have e : v = .nilIface := by simpa [RepV] using hx
            exact one v hx rfl (by rw [e]; rfl)
  | ro sz es =>
    have hx' := hx
    simp only [RepV] at hx; obtain ⟨A, c, e, _⟩ := hx
    exact one v hx' rfl (by rw [e]; rfl)
  | rp cs =>
    have hx' := hx
    simp only [RepV] at hx; obtain ⟨A, e, _⟩ := hx
    exact one v hx' rfl (by rw [e]; rfl)
  | fn f cs =>
    have hx' := hx
    simp only [RepV] at hx; obtain ⟨A, e, _⟩ := hx
    exact one v hx' rfl (by rw [e]; rfl)
  | iface t y =>
    have hx' := hx
    simp only [RepV] at hx; obtain ⟨A, e, _⟩ := hx
    exact one v hx' rfl (by rw [e]; rfl)
  | own p off len => exact one v hx rfl (by simp only [RepV] at hx; exact hx.1)
  | bptr p c => exact one v hx rfl (by simp only [RepV] at hx; exact hx.1)
  | ptr p i c => exact one v hx rfl (by simp only [RepV] at hx; exact hx.1)
  | map p => exact one v hx rfl (by simp only [RepV] at hx; exact hx.1)
def overV : List Value → Nat → List Value → List Value
  | cs, 0, [] => cs
  | [], _, _ => []
  | _ :: cs, 0, x :: xs => x :: overV cs 0 xs
  | c :: cs, n + 1, xs => c :: overV cs n xs
theorem over_rep {S H w} : ∀ {cs : List AV} {vs : List Value} (n : Nat) {xs : List AV} {us : List Value}, RepL S H w cs vs → RepL S H w xs us → RepL S H w (over cs n xs) (overV vs n us)
  | [], vs, 0, [], us, h, k => by simp only [RepL] at h k; subst h k; simp [over, overV, RepL]
  | [], vs, 0, x :: xs, us, h, k => by
    simp only [RepL] at h k; subst h; obtain ⟨u, r, rfl, _⟩ := k; simp [over, overV, RepL]
  | [], vs, n + 1, xs, us, h, k => by simp only [RepL] at h; subst h; simp [over, overV, RepL]
  | c :: cs, vs, 0, [], us, h, k => by
    simp only [RepL] at k; subst k
    have e : overV vs 0 [] = vs := by cases vs <;> rfl
    rw [e]; exact h
  | c :: cs, vs, 0, x :: xs, us, h, k => by
    simp only [RepL] at h k
    obtain ⟨v, r, rfl, hv, hr⟩ := h
    obtain ⟨u, q, rfl, hu, hq⟩ := k
    simp only [over, overV, RepL]
    exact ⟨u, _, rfl, hu, over_rep 0 hr hq⟩
  | c :: cs, vs, n + 1, xs, us, h, k => by
    simp only [RepL] at h
    obtain ⟨v, r, rfl, hv, hr⟩ := h
    simp only [over, overV, RepL]
    exact ⟨v, _, rfl, hv, over_rep n hr k⟩
theorem overV_length : ∀ (vs : List Value) (n : Nat) (us : List Value), (overV vs n us).length = vs.length
  | [], 0, [] => rfl
  | [], 0, _ :: _ => rfl
  | [], _ + 1, us => by cases us <;> rfl
  | _ :: _, 0, [] => rfl
  | v :: vs, 0, u :: us => by simp [overV, overV_length vs 0 us]
  | v :: vs, n + 1, us => by simp [overV, overV_length vs n us]
theorem overV_mem : ∀ (vs : List Value) (n : Nat) (us : List Value) (x : Value), x ∈ overV vs n us → x ∈ vs ∨ x ∈ us
  | [], 0, [], x, h => by simp [overV] at h
  | [], 0, _ :: _, x, h => by simp [overV] at h
  | [], n + 1, us, x, h => by cases us <;> simp [overV] at h
  | v :: vs, 0, [], x, h => .inl h
  | v :: vs, 0, u :: us, x, h => by
    simp only [overV, List.mem_cons] at h ⊢
    rcases h with h | h
    · exact .inr (.inl h)
    · rcases overV_mem vs 0 us x h with h | h
      · exact .inl (.inr h)
      · exact .inr (.inr h)
  | v :: vs, n + 1, us, x, h => by
    simp only [overV, List.mem_cons] at h ⊢
    rcases h with h | h
    · exact .inl (.inl h)
    · rcases overV_mem vs n us x h with h | h
      · exact .inl (.inr h)
      · exact .inr h
theorem overV_eq : ∀ (vs : List Value) (n : Nat) (us : List Value), n + us.length ≤ vs.length → overV vs n us = vs.take n ++ us ++ vs.drop (n + us.length)
  | vs, 0, [], _ => by cases vs <;> simp [overV]
  | [], 0, u :: us, h => by simp at h
  | v :: vs, 0, u :: us, h => by
    have := overV_eq vs 0 us (by simp at h ⊢; omega)
    simp [overV, this]
  | [], n + 1, us, h => by simp at h
  | v :: vs, n + 1, us, h => by
    have := overV_eq vs n us (by simp at h ⊢; omega)
    simp [overV, this, Nat.add_right_comm]
theorem foldl_set : ∀ (us : List Value) (k off : Nat) (cur : Array Value), off + k + us.length ≤ cur.size →
    (us.zipIdx k).foldl (fun (cs : Array Value) (x : Value × Nat) => cs.setIfInBounds (off + x.2) x.1) cur = (overV cur.toList (off + k) us).toArray
  | [], k, off, cur, h => by
    have e : overV cur.toList (off + k) [] = cur.toList := by
      rw [overV_eq _ _ _ (by simpa using h)]; simp
    simp [e]
  | u :: us, k, off, cur, h => by
    simp only [List.zipIdx_cons, List.foldl_cons]
    simp only [List.length_cons] at h
    rw [foldl_set us (k + 1) off _ (by simp; omega)]
    congr 1
    rw [overV_eq _ _ _ (by simp; omega), overV_eq _ _ _ (by simp; omega)]
    have hlt : off + k < cur.toList.length := by simp; omega
    simp only [Array.toList_setIfInBounds, List.length_cons]
    rw [← Nat.add_assoc, List.take_succ_eq_append_getElem (by simpa using hlt), List.take_set_of_le (Nat.le_refl _)]
    simp [List.getElem_set, List.drop_set, Nat.add_assoc, Nat.add_comm 1]
theorem fill_ok (hr : Opn gl B S H w E a) {fs : List (Nat × Nat × Bool)} {place : Nat → Option (Nat × Nat)} (hp : ∀ (i off n : Nat) (ag : Bool), fs[i]? = some (off, n, ag) → place i = some (off, n)) :
    ∀ (ps : List (Nat × Operand)) (len : Nat) (cs : List AV) (cur : Array Value), cur.size = len → RepL S H w cs cur.toList → One cur.toList →
      partsOK fs len (ps.map fun p => (p.1, E p.2)) = true →
      ∃ cur' : Array Value, Instr.fill place cur (ps.map fun p => (p.1, a.eval p.2)) = some cur' ∧ RepL S H w (putParts fs cs (ps.map fun p => (p.1, E p.2))) cur'.toList ∧ One cur'.toList
  | [], len, cs, cur, hn, hl, h1, h => ⟨cur, rfl, hl, h1⟩
  | (i, x) :: ps, len, cs, cur, hn, hl, h1, h => by
    simp only [List.map_cons, partsOK] at h
    simp only [List.map_cons, putParts]
    split at h
    · rename_i off n ag hi
      simp only [Bool.and_eq_true] at h
      obtain ⟨⟨hsz, hle⟩, h⟩ := h
      have hle := Nat.le_of_ble_eq_true hle
      obtain ⟨vs, hv, hvn, hv1, hvl, hn0⟩ := cells_rep hsz (hr.ev x)
      have hfold := foldl_set vs 0 off cur (by omega)
      have e : ((a.eval x).cells.zipIdx.foldl (fun cs (x : Value × Nat) => cs.setIfInBounds (off + x.2) x.1) cur) = (overV cur.toList off vs).toArray := by
        rw [hv]
        have : (vs.toArray.zipIdx.foldl (fun (cs : Array Value) (x : Value × Nat) => cs.setIfInBounds (off + x.2) x.1) cur) = vs.zipIdx.foldl (fun (cs : Array Value) (x : Value × Nat) => cs.setIfInBounds (off + x.2) x.1) cur := by
          rw [← Array.foldl_toList]; simp
        rw [this]; simpa using hfold
      obtain ⟨cur', hf, hl', h1'⟩ := fill_ok hr hp ps len (over cs off (cells (E x))) (overV cur.toList off vs).toArray (by simp [overV_length, hn])
        (by simpa using over_rep off hl hvl) (fun u hu => by
          rcases overV_mem _ _ _ u (by simpa using hu) with h | h
          · exact h1 u h
          · exact hv1 u h) h
      refine ⟨cur', ?_, by simpa [hi] using hl', h1'⟩
      simp only [Instr.fill, hp i off n ag hi]
      have hs : (a.eval x).cells.size = n := by rw [hv]; simpa using hvn
      rw [if_neg (by simp [hs]; omega)]
      rw [← hf]
      congr 1
    · cases h
theorem zero_rep (hT : TOK P T) {t : TypeId} (hk : (T.ti t).k ≠ .bad) (S : Nat → Prop) (H : Hp) (w : World) :
    RepL S H w (T.ti t).zero (T.ti t).zv.cells.toList ∧ One (T.ti t).zv.cells.toList ∧ (T.ti t).zv.cells.size = (T.ti t).size ∧ (T.ti t).zero.length = (T.ti t).size := by
  have f := (hT.get hk).zero
  simp only [Bool.and_eq_true] at f
  have f1 := Nat.eq_of_beq_eq_true f.1
  refine ⟨?_, ?_, f1, by simp [TI.zero, f1]⟩
  · unfold TI.zero
    generalize (T.ti t).zv.cells.toList = l
    induction l with
    | nil => rfl
    | cons v r ih => simp only [List.map_cons, RepL]; exact ⟨v, r, rfl, cav_ok S H w v, ih⟩
  · intro u hu
    have := f.2
    rw [Array.all_eq_true_iff_forall_mem] at this
    exact this u (by simpa using hu)
theorem places_list (P : Program) : ∀ (l : List Field), (∀ f ∈ l, (P.info? f.type).isSome = true) →
    l.mapM (fun f => (P.info? f.type).map fun i => (f.offset, i.size)) = some (l.map fun f => (f.offset, ((P.info? f.type).map (·.size)).getD 0))
  | [], _ => rfl
  | f :: l, h => by
    have hf := h f (by simp)
    have := places_list P l fun g hg => h g (List.mem_cons_of_mem _ hg)
    cases hi : P.info? f.type with
    | none => rw [hi] at hf; cases hf
    | some i => simp [List.mapM_cons, hi, this]
theorem places_ok (hT : TOK P T) {t : TypeId} {fs : List (Nat × Nat × Bool)} (h : (T.ti t).k = .strc fs) {fl : Array Field} (hu : P.underlying t = some (.struct fl)) :
    ∃ places : List (Nat × Nat), fl.toList.mapM (fun f => (P.info? f.type).map fun i => (f.offset, i.size)) = some places ∧ ∀ (i off n : Nat) (ag : Bool), fs[i]? = some (off, n, ag) → places[i]? = some (off, n) := by
  have f := (hT.get (t := t) (by rw [h]; simp)).kind
  rw [h, hu] at f
  simp only [kok, Bool.and_eq_true, beq_iff_eq, List.all_eq_true] at f
  obtain ⟨f1, f2⟩ := f
  refine ⟨_, places_list P fl.toList fun g hg => (f2 g hg).1, fun i off n ag hi => ?_⟩
  rw [← f1, List.getElem?_map] at hi
  rw [List.getElem?_map]
  cases hfi : fl.toList[i]? with
  | none => rw [hfi] at hi; cases hi
  | some fd =>
    rw [hfi] at hi
    simp only [Option.map_some, Option.some.injEq, Prod.mk.injEq] at hi ⊢
    exact ⟨hi.1, hi.2.1⟩
theorem ok_build (hT : TOK P T) (hr : Opn gl B S H w E a) {o : Oper} {t : TypeId} {ps : Array (Nat × Operand)} (ho : o.op = .build t ps) (h : vop P gl T dr o.op E (getOb H.h) n K) : Ok1 P gl B S H a w o K := by
  rw [ho] at h
  simp only [vop] at h
  split at h
  · rename_i fs hk
    have hkb : (T.ti t).k ≠ .bad := by rw [hk]; simp
    obtain ⟨fl, hu, hf, hlen⟩ := und_strc hT hk
    simp only [chk_iff] at h
    obtain ⟨hparts, h⟩ := h
    obtain ⟨hz, hz1, hzs, hzl⟩ := zero_rep hT hkb S H w
    have hinfo := (hT.get hkb).info
    cases hi : P.info? t with
    | none => rw [hi] at hinfo; cases hinfo
    | some it =>
      rw [hi] at hinfo
      simp only [Option.map_some, Option.some.injEq, Prod.mk.injEq] at hinfo
      obtain ⟨hzv, hsz, hby⟩ := hinfo
      obtain ⟨places, hpl, hpp⟩ := places_ok hT hk hu
      obtain ⟨cur', hfill, hl', h1'⟩ := fill_ok hr (place := fun i => places.toArray[i]?) (fun i off n ag hi => by simpa using hpp i off n ag hi) ps.toList (T.ti t).zero.length (T.ti t).zero (T.ti t).zv.cells (by rw [hzs, hzl]) hz hz1 hparts
      have hb : P.built t (ps.map fun p => (p.1, a.eval p.2)).toList = some cur' := by
        unfold Program.built
        simp only [hi, hu, hzv, hpl]
        simpa using hfill
      refine ok_val hr (u := .agg cur') ?_ h ?_
      · have := run_build (P := P) w t (ps.map fun p => (p.1, a.eval p.2)) cur' hb
        simp [execOp, ho, this]
      · have := rep_agg h1' hl'
        simpa using this
  · exact h.elim
end Go.V
namespace Go.V
open Go.RowKit
variable {P : Program} {gl : Gl} {T : Tab} {B : Base} {S : Nat → Prop} {H : Hp} {a : Act} {w : World} {E : Operand → AV} {n : Nat} {K : AV → List (Nat × Ob) → Prop} {dr : Bool}
theorem und_map (hT : TOK P T) {t e : TypeId} (h : (T.ti t).k = .map e) : ∃ k, P.underlying t = some (.map k e) ∧ P.underlying k = some .string := by
  have f := (hT.get (t := t) (by rw [h]; simp)).kind
  rw [h] at f
  cases hu : P.underlying t with
  | none => rw [hu] at f; cases f
  | some d =>
    rw [hu] at f
    cases d with
    | map k e' =>
      simp only [kok, Bool.and_eq_true] at f
      have := Nat.eq_of_beq_eq_true f.1
      subst this
      refine ⟨k, rfl, ?_⟩
      cases hk : P.underlying k with
      | none => rw [hk] at f; simp at f
      | some d => rw [hk] at f; cases d <;> simp at f ⊢
    | _ => cases f
theorem same_str (x k : ByteArray) : (x = k → Instr.sameNow .string (.string x) (.string k) = some true) ∧ (x ≠ k → Instr.sameNow .string (.string x) (.string k) = some false) := by
  obtain ⟨r, hr, hiff⟩ := MapKept.sameNow_of_keys (d := .string) (a := .string x) (b := .string k) (by simp [MapKept.IsKey]) (by simp [MapKept.IsKey])
  refine ⟨fun e => ?_, fun e => ?_⟩
  · rw [hr]; congr 1; exact hiff.2 (by rw [e])
  · rw [hr]; congr 1
    cases r with
    | false => rfl
    | true => exact absurd (by have := hiff.1 rfl; simpa using this) e
theorem findNow_rep {S H w} (x : ByteArray) : ∀ (l : List (ByteArray × AV)) (es : List MapEntry) (i : Nat), RepKV S H w l es →
    (findK l x = none ∧ Instr.findNow .string (.string x) es i = some none) ∨
    ∃ v u j, findK l x = some v ∧ Instr.findNow .string (.string x) es i = some (some (i + j, u)) ∧ RepV S H w v u ∧ j < es.length
  | [], es, i, h => by simp only [RepKV] at h; subst h; exact .inl ⟨rfl, rfl⟩
  | (k, v) :: r, es, i, h => by
    simp only [RepKV] at h
    obtain ⟨u, b, es', rfl, hv, hr⟩ := h
    by_cases e : x = k
    · exact .inr ⟨v, u, 0, by simp [findK, e], by simp [Instr.findNow, (same_str x k).1 e], hv, by simp⟩
    · have hs := (same_str x k).2 e
      rcases findNow_rep x r es' (i + 1) hr with ⟨h1, h2⟩ | ⟨v', u', j, h1, h2, h3, h4⟩
      · exact .inl ⟨by simp [findK, e, h1], by simp [Instr.findNow, hs, h2]⟩
      · refine .inr ⟨v', u', j + 1, by simp [findK, e, h1], ?_, h3, by simp; omega⟩
        simp only [Instr.findNow, hs, h2]
        rw [show i + 1 + j = i + (j + 1) by omega]
theorem ok_lookup (hT : TOK P T) (hr : Opn gl B S H w E a) {o : Oper} {t : TypeId} {x i : Operand} {ok : Bool} (ho : o.op = .lookup t x i ok) (h : vop P gl T dr o.op E (getOb H.h) n K) : Ok1 P gl B S H a w o K := by
  rw [ho] at h
  simp only [vop] at h
  have hx := hr.ev x
  have hi := hr.ev i
  split at h
  · rename_i e hk
    obtain ⟨kt, hu, huk⟩ := und_map hT hk
    split at h
    · exact h.elim
    · rename_i hke
      have hke : (T.ti e).k ≠ .bad := fun eb => hke eb
      split at h
      · rename_i p k e1 e2
        split at h
        · rename_i l hg
          rw [e1] at hx; rw [e2] at hi; simp only [RepV] at hx hi
          have hv := hx.2.2 _ (at_kv hg)
          obtain ⟨es, c, hb, hl, hs⟩ := hr.wd.ok.kv p l hg
          have hzero : (zeroValue e).run P w = .ok (T.ti e).zv w := by
            have f := (hT.get hke).info
            cases hi' : P.info? e with
            | none => rw [hi'] at f; cases f
            | some it =>
              rw [hi'] at f
              simp only [Option.map_some, Option.some.injEq, Prod.mk.injEq] at f
              simp [zeroValue, typeInfo, hi', f.1]
          have hck : (Instr.checkKey es.isEmpty 10000 kt (.string k)).run P w = .ok () w := MapKept.run_checkKey (k := .string k) huk (by simp [MapKept.IsKey]) _ 9999
          have key : ∃ u, (Instr.lookup t (.map (some (H.β p))) (.string k) false).run P w = .ok u w ∧ (Instr.lookup t (.map (some (H.β p))) (.string k) true).run P w = .ok (.tuple #[u, .bool (findK l k).isSome]) w ∧ RepV S H w ((findK l k).getD (cav (T.ti e).zv)) u := by
            rcases findNow_rep k l es.toList 0 hl with ⟨h1, h2⟩ | ⟨v, u, j, h1, h2, h3, h4⟩
            · refine ⟨(T.ti e).zv, ?_, ?_, by rw [h1]; exact cav_ok S H w _⟩ <;>
                simp [Instr.lookup, run_underlying hu, MapKept.run_getObj_map hb, hck, MapKept.run_findKey huk h2, hzero, h1]
            · refine ⟨u, ?_, ?_, by rw [h1]; exact h3⟩ <;>
                simp [Instr.lookup, run_underlying hu, MapKept.run_getObj_map hb, hck, MapKept.run_findKey huk h2, h1]
          obtain ⟨u, k1, k2, k3⟩ := key
          cases ok with
          | false =>
            obtain ⟨r, rfl, h⟩ := h
            exact ok_val hr (u := u) (by simp [execOp, ho, hv, hi, k1]) h k3
          | true =>
            obtain ⟨r, b, rfl, rfl, h⟩ := h
            refine ok_val hr (u := .tuple #[u, .bool (findK l k).isSome]) (by simp [execOp, ho, hv, hi, k2]) h ?_
            exact rep_tup (vs := [u, .bool (findK l k).isSome]) (by simp only [RepL]; exact ⟨u, _, rfl, k3, _, _, rfl, rep_bool _, rfl⟩)
        · exact h.elim
      · exact h.elim
  · exact h.elim
end Go.V
namespace Go.V
open Go.RowKit
variable {P : Program} {gl : Gl} {T : Tab} {B : Base} {S : Nat → Prop} {H : Hp} {a : Act} {w : World}
theorem getOb_set : ∀ (l : List Ob) (x : Ob) (p q : Nat), getOb (setOb l p x) q = if q = p then x else getOb l q
  | [], x, 0, 0 => rfl
  | [], x, 0, q + 1 => by simp [setOb, getOb]
  | [], x, p + 1, 0 => by simp [setOb, getOb]
  | [], x, p + 1, q + 1 => by simp [setOb, getOb, getOb_set [] x p q]
  | o :: l, x, 0, 0 => by simp [setOb, getOb]
  | o :: l, x, 0, q + 1 => by simp [setOb, getOb]
  | o :: l, x, p + 1, 0 => by simp [setOb, getOb]
  | o :: l, x, p + 1, q + 1 => by simp [setOb, getOb, getOb_set l x p q]
theorem getOb_ge : ∀ (l : List Ob) (p : Nat), l.length ≤ p → getOb l p = .dead
  | [], p, _ => rfl
  | o :: l, 0, h => by simp at h
  | o :: l, p + 1, h => getOb_ge l p (by simp at h; omega)
theorem setAll_append : ∀ (d d' : List (Nat × Ob)) (h : List Ob), setAll h (d ++ d') = setAll (setAll h d) d'
  | [], d', h => rfl
  | (p, o) :: d, d', h => setAll_append d d' _
theorem Later.trans {S H w S' H' w' S'' H'' w''} (L : Later S H w S' H' w') (L' : Later S' H' w' S'' H'' w'') : Later S H w S'' H'' w'' :=
  ⟨fun b hb hlt => by
    obtain ⟨h1, h2⟩ := L.blk b hb hlt
    obtain ⟨h3, h4⟩ := L'.blk b h1 (Nat.lt_of_lt_of_le hlt L.size)
    exact ⟨h3, h4.trans h2⟩, Nat.le_trans L.size L'.size, fun p hp => by
    obtain ⟨h1, h2⟩ := L.ob p hp
    obtain ⟨h3, h4⟩ := L'.ob p h1
    refine ⟨h3, fun s hs => ?_⟩
    obtain ⟨k1, k2, k3⟩ := h4 s hs
    obtain ⟨l1, l2, l3⟩ := h2 s k1
    exact ⟨l1, k2.trans l2, k3.trans l3⟩⟩
theorem Eff.trans {S' H' w' S'' H'' w'' d d'} (h : Eff gl B S H w S' H' w' d) (h' : Eff gl B S' H' w' S'' H'' w'' d') : Eff gl B S H w S'' H'' w'' (d ++ d') :=
  ⟨by rw [h'.hh, h.hh, setAll_append], h'.wd, h.later.trans h'.later⟩
theorem RowAt.later {S S' : Nat → Prop} {w w' : World} {b cap e sz : Nat} {es : List (List AV)} (L : Later S H0 w S' H0 w') (hb : w'.heap[b]? = w.heap[b]?) (h : RowAt S w b cap e sz es) : RowAt S' w' b cap e sz es := by
  obtain ⟨cur, vss, hh, rest⟩ := h
  exact ⟨cur, vss, hb.trans hh, rest.1, rest.2.1, rest.2.2.1, rest.2.2.2.1, RepLL.later L es vss rest.2.2.2.2.1, rest.2.2.2.2.2⟩
theorem RepKV.later {S S' H H' w w'} (L : Later S H w S' H' w') : ∀ (l : List (ByteArray × AV)) (es : List MapEntry), RepKV S H w l es → RepKV S' H' w' l es
  | [], es, h => by simpa [RepKV] using h
  | (k, x) :: r, es, h => by
    simp only [RepKV] at h ⊢
    obtain ⟨v, b, es', e, hv, hr⟩ := h
    exact ⟨v, b, es', e, RepV.later L x v hv, RepKV.later L r es' hr⟩
theorem GlOK.later {S S' H H' w w'} (L : Later S H w S' H' w') {gl : Gl} (h : GlOK S w gl) : GlOK S' w' gl :=
  fun g cs hm => by
    obtain ⟨h1, c, e, f, h2, h3⟩ := h g cs hm
    refine ⟨RepV.later L.zero _ _ h1, c, e, f, ?_, h3⟩
    simp only [RepV] at h1
    obtain ⟨a, ea, hs, hb, _⟩ := h1
    cases ea
    rw [(L.blk g hs hb).2]; exact h2
theorem live_lt (hok : HeapOK S B H w) {p : Nat} {s : Nat × Nat} (h : H.at p = some (some s)) : H.β p < w.heap.size := by
  unfold Hp.at at h
  cases ho : getOb H.h p with
  | dead => rw [ho] at h; cases h
  | gone => rw [ho] at h; cases h
  | box t cs => obtain ⟨vs, hh, _⟩ := hok.box p t cs ho; exact (Array.getElem?_eq_some_iff.1 hh).1
  | row fz e sz es => obtain ⟨⟨cur, vss, hh, _⟩, _⟩ := hok.row p fz e sz es ho; exact (Array.getElem?_eq_some_iff.1 hh).1
  | kv l => obtain ⟨es, c, hh, _⟩ := hok.kv p l ho; exact (Array.getElem?_eq_some_iff.1 hh).1
  | iter x k => exact (Array.getElem?_eq_some_iff.1 (hok.it p x k ho).1).1
theorem eff_world' (h : Wd gl B S H w) {w' : World} (X : Nat → Prop) (hX : ∀ k, X k → ¬ S k ∧ (∀ q s, H.at q = some (some s) → H.β q ≠ k) ∧ (B.w0.heap.size ≤ k ∨ B.M k)) (os : w'.os = w.os) (tape : w'.tape = w.tape) (output : w'.output = w.output) (size : w.heap.size ≤ w'.heap.size)
    (block : ∀ k, k < w.heap.size → ¬ X k → w'.heap[k]? = w.heap[k]?) : Eff gl B S H w S H w' [] := by
  have L : Later S H w S H w' := ⟨fun b hb hlt => ⟨hb, block b hlt fun hx => (hX b hx).1 hb⟩, size, fun p hp => ⟨hp, fun s hs => ⟨hs, rfl, rfl⟩⟩⟩
  refine ⟨rfl, ⟨⟨fun b hb => Nat.lt_of_lt_of_le (h.ok.sb b hb) size, ?_, ?_, ?_, h.ok.inj, ?_, h.ok.mine⟩, ⟨os.trans h.kept.os, tape.trans h.kept.tape, output.trans h.kept.output, Nat.le_trans h.kept.size size, ?_⟩, h.gl.later L, h.bs, h.sup⟩, L⟩
  · intro p fz e sz es ho
    obtain ⟨h1, h2⟩ := h.ok.row p fz e sz es ho
    exact ⟨h1.later L.zero (block _ (live_lt h.ok (at_row ho)) fun hx => (hX _ hx).2.1 _ _ (at_row ho) rfl), h2⟩
  · intro p t cs ho
    obtain ⟨vs, h1, h2, h3, h4⟩ := h.ok.box p t cs ho
    exact ⟨vs, (block _ (live_lt h.ok (at_box ho)) fun hx => (hX _ hx).2.1 _ _ (at_box ho) rfl).trans h1, h2, RepL.later L cs vs h3, h4⟩
  · intro p l ho
    obtain ⟨es, c, h1, h2, h3⟩ := h.ok.kv p l ho
    exact ⟨es, c, (block _ (live_lt h.ok (at_kv ho)) fun hx => (hX _ hx).2.1 _ _ (at_kv ho) rfl).trans h1, RepKV.later L l _ h2, h3⟩
  · intro p x k ho
    obtain ⟨h1, h2⟩ := h.ok.it p x k ho
    exact ⟨(block _ (live_lt h.ok (at_iter ho)) fun hx => (hX _ hx).2.1 _ _ (at_iter ho) rfl).trans h1, h2⟩
  · intro k hk hm
    rw [block k (Nat.lt_of_lt_of_le hk h.kept.size) fun hx => by rcases (hX k hx).2.2 with hx | hx; exact absurd hk (Nat.not_lt.2 hx); exact hm hx]
    exact h.kept.block k hk hm
theorem eff_world (h : Wd gl B S H w) {w' : World} (os : w'.os = w.os) (tape : w'.tape = w.tape) (output : w'.output = w.output) (size : w.heap.size ≤ w'.heap.size)
    (block : ∀ k, k < w.heap.size → w'.heap[k]? = w.heap[k]?) : Eff gl B S H w S H w' [] :=
  eff_world' h (fun _ => False) (fun _ hk => hk.elim) os tape output size fun k hk _ => block k hk
def NewAt (S : Nat → Prop) (H : Hp) (w : World) (o : Option Obj) (cap : Nat) : Ob → Prop
  | .row fz e sz es => fz = false ∧ ∃ (cur : Array Value) (vss : List (List Value)), o = some (.cells cur e (0, 0)) ∧ cur.size = cap * sz ∧ 0 < sz ∧ es.length ≤ cap ∧ cap ≤ maxLen ∧
    RepLL S w es vss ∧ (∀ vs ∈ vss, vs.length = sz ∧ One vs) ∧ cur.toList.take (es.length * sz) = vss.flatten
  | .box t cs => ∃ vs : List Value, o = some (.cells vs.toArray t (0, 0)) ∧ One vs ∧ RepL S H w cs vs
  | .kv l => ∃ (es : Array MapEntry) (c : Nat), o = some (.map es c) ∧ RepKV S H w l es.toList
  | .iter x k => o = some (.stringIter x k)
  | _ => False
theorem wd_put (h : Wd gl B S H w) {w' : World} {H' : Hp} {p : Nat} {ob : Ob} (hh : H'.h = setOb H.h p ob) (hβ : ∀ q, q ≠ p → H'.β q = H.β q) (hκ : ∀ q, q ≠ p → H'.κ q = H.κ q)
    (os : w'.os = w.os) (tape : w'.tape = w.tape) (output : w'.output = w.output) (size : w'.heap.size = w.heap.size) (block : ∀ k, k ≠ H'.β p → w'.heap[k]? = w.heap[k]?)
    (L : Later S H w S H' w') (hS : ¬ S (H'.β p)) (hd : ∀ q s, q ≠ p → H.at q = some (some s) → H.β q ≠ H'.β p) (hm : B.w0.heap.size ≤ H'.β p ∨ B.M (H'.β p))
    (hn : NewAt S H w (w'.heap[H'.β p]?) (H'.κ p) ob) : Wd gl B S H' w' := by
  have new : getOb H'.h p = ob := by rw [hh, getOb_set, if_pos rfl]
  have old : ∀ q, q ≠ p → getOb H'.h q = getOb H.h q := fun q hq => by rw [hh, getOb_set, if_neg hq]
  refine ⟨⟨fun b hb => by rw [size]; exact h.ok.sb b hb, ?_, ?_, ?_, ?_, ?_, ?_⟩, ⟨os.trans h.kept.os, tape.trans h.kept.tape, output.trans h.kept.output, by rw [size]; exact h.kept.size, ?_⟩, h.gl.later L, h.bs, h.sup⟩
  · intro q fz e sz es ho
    by_cases hq : q = p
    · subst hq
      rw [new] at ho; subst ho
      obtain ⟨rfl, cur, vss, k1, k2, k3, k4, k5, k6, k7, k8⟩ := hn
      exact ⟨⟨cur, vss, k1, k2, k3, k4, k5, RepLL.later L.zero _ _ k6, k7, k8⟩, by simp [hS]⟩
    · rw [old q hq] at ho
      obtain ⟨h1, h2⟩ := h.ok.row q fz e sz es ho
      rw [hβ q hq, hκ q hq]
      exact ⟨h1.later L.zero (block _ (hd q _ hq (at_row ho))), h2⟩
  · intro q t cs ho
    by_cases hq : q = p
    · subst hq
      rw [new] at ho; subst ho
      obtain ⟨vs, k1, k2, k3⟩ := hn
      exact ⟨vs, k1, k2, RepL.later L _ _ k3, hS⟩
    · rw [old q hq] at ho
      obtain ⟨vs, h1, h2, h3, h4⟩ := h.ok.box q t cs ho
      rw [hβ q hq]
      exact ⟨vs, (block _ (hd q _ hq (at_box ho))).trans h1, h2, RepL.later L cs vs h3, h4⟩
  · intro q l ho
    by_cases hq : q = p
    · subst hq
      rw [new] at ho; subst ho
      obtain ⟨es, c, k1, k2⟩ := hn
      exact ⟨es, c, k1, RepKV.later L _ _ k2, hS⟩
    · rw [old q hq] at ho
      obtain ⟨es, c, h1, h2, h3⟩ := h.ok.kv q l ho
      rw [hβ q hq]
      exact ⟨es, c, (block _ (hd q _ hq (at_kv ho))).trans h1, RepKV.later L l _ h2, h3⟩
  · intro q r s s' hq hr he hnS
    have un : ∀ q, q ≠ p → ∀ s, H'.at q = some s → H.at q = some s := fun q hq s hs => by unfold Hp.at at hs ⊢; rw [old q hq] at hs; exact hs
    by_cases e1 : q = p <;> by_cases e2 : r = p
    · exact e1.trans e2.symm
    · subst e1
      rw [hβ r e2] at he
      exact absurd he.symm (hd r _ e2 (un r e2 _ hr))
    · subst e2
      rw [hβ q e1] at he
      exact absurd he (hd q _ e1 (un q e1 _ hq))
    · rw [hβ q e1, hβ r e2] at he
      rw [hβ q e1] at hnS
      exact h.ok.inj q r s s' (un q e1 _ hq) (un r e2 _ hr) he hnS
  · intro q x k ho
    by_cases hq : q = p
    · subst hq
      rw [new] at ho; subst ho
      exact ⟨hn, hS⟩
    · rw [old q hq] at ho
      obtain ⟨h1, h2⟩ := h.ok.it q x k ho
      rw [hβ q hq]
      exact ⟨(block _ (hd q _ hq (at_iter ho))).trans h1, h2⟩
  · intro q s hq hns
    by_cases e1 : q = p
    · subst e1; exact hm
    · rw [hβ q e1] at hns ⊢
      refine h.ok.mine q s (by unfold Hp.at at hq ⊢; rw [old q e1] at hq; exact hq) hns
  · intro k hk hM
    have : k ≠ H'.β p := by
      rintro rfl
      rcases hm with hm | hm
      · omega
      · exact hM hm
    rw [block k this]
    exact h.kept.block k hk hM
def Hp.put (H : Hp) (n : Nat) (ob : Ob) (b cap : Nat) : Hp := ⟨setOb H.h n ob, fun p => if p = n then b else H.β p, fun p => if p = n then cap else H.κ p⟩
def Hp.upd (H : Hp) (p : Nat) (ob : Ob) : Hp := ⟨setOb H.h p ob, H.β, H.κ⟩
theorem eff_new (h : Wd gl B S H w) {n : Nat} {ob : Ob} {b cap : Nat} (hd : getOb H.h n = .dead) (hS : ¬ S b) (hβ : ∀ q s, H.at q = some (some s) → H.β q ≠ b) (hm : B.w0.heap.size ≤ b ∨ B.M b)
    (hn : NewAt S H w (w.heap[b]?) cap ob) : Eff gl B S H w S (H.put n ob b cap) w [(n, ob)] := by
  have L : Later S H w S (H.put n ob b cap) w := ⟨fun b hb _ => ⟨hb, rfl⟩, Nat.le_refl _, fun p hp => by
    have hne : p ≠ n := fun e => hp (by subst e; simp [Hp.at, hd, Ob.sz])
    have e : (H.put n ob b cap).at p = H.at p := by simp [Hp.at, Hp.put, getOb_set, hne]
    rw [e]
    exact ⟨hp, fun s hs => ⟨hs, by simp [Hp.put, hne], by simp [Hp.put, hne]⟩⟩⟩
  refine ⟨rfl, wd_put h (p := n) rfl (fun q hq => by simp [Hp.put, hq]) (fun q hq => by simp [Hp.put, hq]) rfl rfl rfl rfl (fun _ _ => rfl) L (by simpa [Hp.put] using hS) (fun q s hq hs => by simpa [Hp.put] using hβ q s hs) (by simpa [Hp.put] using hm) (by simpa [Hp.put] using hn), L⟩
theorem NewAt.later {S' : Nat → Prop} {H' : Hp} {w' : World} (L : Later S H w S' H' w') {o : Option Obj} {cap : Nat} : ∀ {ob : Ob}, NewAt S H w o cap ob → NewAt S' H' w' o cap ob
  | .row fz e sz es, h => by
    obtain ⟨h0, cur, vss, k1, k2, k3, k4, k5, k6, k7, k8⟩ := h
    exact ⟨h0, cur, vss, k1, k2, k3, k4, k5, RepLL.later L.zero _ _ k6, k7, k8⟩
  | .box t cs, h => by
    obtain ⟨vs, k1, k2, k3⟩ := h
    exact ⟨vs, k1, k2, RepL.later L _ _ k3⟩
  | .kv l, h => by
    obtain ⟨es, c, k1, k2⟩ := h
    exact ⟨es, c, k1, RepKV.later L _ _ k2⟩
  | .iter _ _, h => h
  | .dead, h => h.elim
  | .gone, h => h.elim
theorem eff_alloc (h : Wd gl B S H w) {n : Nat} {ob : Ob} {cap : Nat} (hd : getOb H.h n = .dead) (o : Obj) (hn : NewAt S H w (some o) cap ob) :
    Eff gl B S H w S (H.put n ob w.heap.size cap) (w.alloc o) [(n, ob)] := by
  have E1 := eff_world h (w' := w.alloc o) rfl rfl rfl (by simp) (fun k hk => Below.heap_alloc w o k hk)
  have E2 := eff_new E1.wd (b := w.heap.size) (cap := cap) hd (fun hs => Nat.lt_irrefl _ (h.ok.sb _ hs)) (fun q s hq e => Nat.lt_irrefl _ (e ▸ live_lt h.ok hq)) (.inl h.kept.size)
    (by rw [heap_alloc_new]; exact hn.later E1.later)
  exact E1.trans E2
theorem eff_set (h : Wd gl B S H w) {w' : World} {p : Nat} {ob : Ob} {s : Nat × Nat} (hat : H.at p = some (some s)) (hsz : ob.sz = some (some s)) (os : w'.os = w.os) (tape : w'.tape = w.tape) (output : w'.output = w.output)
    (size : w'.heap.size = w.heap.size) (block : ∀ k, k ≠ H.β p → w'.heap[k]? = w.heap[k]?) (hS : ¬ S (H.β p))
    (hn : NewAt S H w (w'.heap[H.β p]?) (H.κ p) ob) : Eff gl B S H w S (H.upd p ob) w' [(p, ob)] := by
  have L : Later S H w S (H.upd p ob) w' := ⟨fun b hb _ => ⟨hb, block b (fun e => hS (e ▸ hb))⟩, by rw [size]; exact Nat.le_refl _, fun q hq => by
    have e : (H.upd p ob).at q = H.at q := by
      by_cases hqp : q = p
      · subst hqp; rw [hat]; simp [Hp.at, Hp.upd, getOb_set, hsz]
      · simp [Hp.at, Hp.upd, getOb_set, hqp]
    rw [e]
    exact ⟨hq, fun s hs => ⟨hs, rfl, rfl⟩⟩⟩
  exact ⟨rfl, wd_put h (p := p) rfl (fun _ _ => rfl) (fun _ _ => rfl) os tape output size block L hS (fun q s' hq hs e => hq (h.ok.inj q p s' s hs hat e (e ▸ hS))) (h.ok.mine p s hat hS) hn, L⟩
theorem eff_frz (h : Wd gl B S H w) {p : Nat} {fz e sz es} (ho : getOb H.h p = .row fz e sz es) :
    Eff gl B S H w (fun b => S b ∨ b = H.β p) (H.upd p (.row true e sz es)) w [(p, .row true e sz es)] := by
  have hat := at_row ho
  have hget : ∀ q, getOb (H.upd p (.row true e sz es)).h q = if q = p then .row true e sz es else getOb H.h q := fun q => by simp [Hp.upd, getOb_set]
  have hatq : ∀ q, (H.upd p (.row true e sz es)).at q = H.at q := fun q => by
    by_cases hqp : q = p
    · subst hqp; rw [hat]; simp [Hp.at, hget, Ob.sz]
    · simp [Hp.at, hget, hqp]
  have L : Later S H w (fun b => S b ∨ b = H.β p) (H.upd p (.row true e sz es)) w := ⟨fun b hb _ => ⟨.inl hb, rfl⟩, Nat.le_refl _, fun q hq => by
    rw [hatq]; exact ⟨hq, fun s hs => ⟨hs, rfl, rfl⟩⟩⟩
  refine ⟨rfl, ⟨⟨?_, ?_, ?_, ?_, ?_, ?_, ?_⟩, h.kept, h.gl.later L, fun b hb => hb.elim (h.bs b) fun e => by
    subst e
    by_cases hs : S (H.β p)
    · exact h.bs _ hs
    · exact .inr (h.ok.mine p _ hat hs), fun b hb => .inl (h.sup b hb)⟩, L⟩
  · rintro b (hb | rfl)
    · exact h.ok.sb b hb
    · exact live_lt h.ok hat
  · intro q fz' e' sz' es' hq
    rw [hget] at hq
    split at hq
    · rename_i e1; subst e1
      cases hq
      obtain ⟨h1, h2⟩ := h.ok.row _ _ _ _ _ ho
      exact ⟨h1.later L.zero rfl, by simp [Hp.upd]⟩
    · rename_i hne
      obtain ⟨h1, h2⟩ := h.ok.row q _ _ _ _ hq
      refine ⟨h1.later L.zero rfl, ?_⟩
      show (S (H.β q) ∨ H.β q = H.β p) ↔ _
      rw [← h2]
      exact ⟨fun hh => hh.elim id fun e => Classical.byContradiction fun hn => hne (h.ok.inj q p _ _ (at_row hq) hat e hn), .inl⟩
  · intro q t cs hq
    rw [hget] at hq
    split at hq
    · cases hq
    · rename_i hne
      obtain ⟨vs, h1, h2, h3, h4⟩ := h.ok.box q t cs hq
      refine ⟨vs, h1, h2, RepL.later L cs vs h3, ?_⟩
      rintro (hh | hh)
      · exact h4 hh
      · exact hne (h.ok.inj q p _ _ (at_box hq) hat hh h4)
  · intro q l hq
    rw [hget] at hq
    split at hq
    · cases hq
    · rename_i hne
      obtain ⟨es', c, h1, h2, h3⟩ := h.ok.kv q l hq
      refine ⟨es', c, h1, RepKV.later L l _ h2, ?_⟩
      rintro (hh | hh)
      · exact h3 hh
      · exact hne (h.ok.inj q p _ _ (at_kv hq) hat hh h3)
  · intro q r s s' hq hr he hn
    rw [hatq] at hq hr
    exact h.ok.inj q r s s' hq hr he fun hs => hn (.inl hs)
  · intro q x k hq
    rw [hget] at hq
    split at hq
    · cases hq
    · rename_i hne
      obtain ⟨h1, h2⟩ := h.ok.it q x k hq
      refine ⟨h1, ?_⟩
      rintro (hh | hh)
      · exact h2 hh
      · exact hne (h.ok.inj q p _ _ (at_iter hq) hat hh h2)
  · intro q s hq hns
    rw [hatq] at hq
    exact h.ok.mine q s hq fun h => hns (.inl h)
theorem eff_gone (h : Wd gl B S H w) {p : Nat} : Eff gl B S H w S (H.upd p .gone) w [(p, .gone)] := by
  have hget : ∀ q, getOb (H.upd p .gone).h q = if q = p then .gone else getOb H.h q := fun q => by simp [Hp.upd, getOb_set]
  have L : Later S H w S (H.upd p .gone) w := ⟨fun b hb _ => ⟨hb, rfl⟩, Nat.le_refl _, fun q hq => by
    unfold Hp.at; rw [hget]
    split
    · exact ⟨by simp [Ob.sz], by simp [Ob.sz]⟩
    · exact ⟨hq, fun s hs => ⟨hs, rfl, rfl⟩⟩⟩
  have un : ∀ q s, (H.upd p .gone).at q = some (some s) → H.at q = some (some s) := fun q s hs => by
    unfold Hp.at at hs ⊢; rw [hget] at hs
    split at hs
    · cases hs
    · exact hs
  refine ⟨rfl, ⟨⟨h.ok.sb, ?_, ?_, ?_, fun q r s s' hq hr he hn => h.ok.inj q r s s' (un _ _ hq) (un _ _ hr) he hn, ?_, fun q s hq hns => h.ok.mine q s (un _ _ hq) hns⟩, h.kept, h.gl.later L, h.bs, h.sup⟩, L⟩
  · intro q fz e sz es hq
    rw [hget] at hq
    split at hq
    · cases hq
    · obtain ⟨h1, h2⟩ := h.ok.row q _ _ _ _ hq
      exact ⟨h1.later L.zero rfl, h2⟩
  · intro q t cs hq
    rw [hget] at hq
    split at hq
    · cases hq
    · obtain ⟨vs, h1, h2, h3, h4⟩ := h.ok.box q t cs hq
      exact ⟨vs, h1, h2, RepL.later L cs vs h3, h4⟩
  · intro q l hq
    rw [hget] at hq
    split at hq
    · cases hq
    · obtain ⟨es, c, h1, h2, h3⟩ := h.ok.kv q l hq
      exact ⟨es, c, h1, RepKV.later L l _ h2, h3⟩
  · intro q x k hq
    rw [hget] at hq
    split at hq
    · cases hq
    · exact h.ok.it q x k hq
end Go.V
namespace Go.V
open Go.RowKit
variable {P : Program} {gl : Gl} {T : Tab} {B : Base} {S : Nat → Prop} {H : Hp} {a : Act} {w : World}
def SameRows (G G' : Nat → Ob) : Prop := ∀ p fz e sz es, G p = .row fz e sz es → ∃ fz', G' p = .row fz' e sz es
theorem eff_frzP (G : Nat → Ob) : ∀ (ps : List Nat) {S : Nat → Prop} {H : Hp}, Wd gl B S H w → SameRows G (getOb H.h) →
    ∃ S' H', Eff gl B S H w S' H' w (frzP G ps) ∧ (∀ p ∈ ps, ∀ fz e sz es, G p = .row fz e sz es → S' (H'.β p)) ∧ H'.β = H.β ∧ H'.κ = H.κ ∧ SameRows G (getOb H'.h) ∧ (∀ q, q ∉ ps → getOb H'.h q = getOb H.h q) ∧
      (∀ q, ¬ (∃ fz e sz es, G q = .row fz e sz es) → getOb H'.h q = getOb H.h q) ∧ ∀ b, S' b → S b ∨ ∃ p ∈ ps, ∃ fz e sz es, G p = .row fz e sz es ∧ b = H.β p
  | [], S, H, h, hs => ⟨S, H, Eff.refl h, by simp, rfl, rfl, hs, by simp, by simp, fun b hb => .inl hb⟩
  | p :: ps, S, H, h, hs => by
    cases hp : G p with
    | row fz e sz es =>
      obtain ⟨fz', ho⟩ := hs p fz e sz es hp
      have E1 := eff_frz h ho
      have hget : ∀ q, getOb (H.upd p (.row true e sz es)).h q = if q = p then .row true e sz es else getOb H.h q := fun q => by simp [Hp.upd, getOb_set]
      have hs' : SameRows G (getOb (H.upd p (.row true e sz es)).h) := fun q fz e' sz' es' hq => by
        rw [hget]
        split
        · rename_i e1; subst e1; rw [hp] at hq; cases hq; exact ⟨true, rfl⟩
        · exact hs q _ _ _ _ hq
      obtain ⟨S', H', E2, h1, h2, h3, h4, h5, h6, h7⟩ := eff_frzP G ps E1.wd hs'
      refine ⟨S', H', by simp only [frzP, hp]; exact E1.trans E2, ?_, h2, h3, h4, ?_, ?_, ?_⟩
      · intro q hq
        simp only [List.mem_cons] at hq
        rcases hq with rfl | hq
        · intro _ _ _ _ _
          rw [h2]
          exact (E2.later.blk _ (.inr rfl) (live_lt h.ok (at_row ho))).1
        · exact h1 q hq
      · intro q hq
        simp only [List.mem_cons, not_or] at hq
        rw [h5 q hq.2, hget, if_neg hq.1]
      · intro q hq
        rw [h6 q hq, hget, if_neg]
        rintro rfl
        exact hq ⟨_, _, _, _, hp⟩
      · intro b hb
        rcases h7 b hb with (hb | rfl) | ⟨q, hq, fz, e', sz', es', hg, rfl⟩
        · exact .inl hb
        · exact .inr ⟨p, by simp, _, _, _, _, hp, rfl⟩
        · exact .inr ⟨q, by simp [hq], _, _, _, _, hg, rfl⟩
    | _ =>
      obtain ⟨S', H', E2, h1, h2, h3, h4, h5, h6, h7⟩ := eff_frzP G ps h hs
      refine ⟨S', H', by simp only [frzP, hp]; exact E2, ?_, h2, h3, h4, ?_, h6, ?_⟩
      · intro q hq
        simp only [List.mem_cons] at hq
        rcases hq with rfl | hq
        · intro _ _ _ _ hc; rw [hp] at hc; cases hc
        · exact h1 q hq
      · intro q hq
        simp only [List.mem_cons, not_or] at hq
        exact h5 q hq.2
      · intro b hb
        rcases h7 b hb with hb | ⟨q, hq, fz, e', sz', es', hg, rfl⟩
        · exact .inl hb
        · exact .inr ⟨q, by simp [hq], _, _, _, _, hg, rfl⟩
theorem SameRows.refl (G : Nat → Ob) : SameRows G G := fun p fz e sz es h => ⟨fz, h⟩
def Lent (S : Nat → Prop) (H : Hp) (S' : Nat → Prop) (ps : List Nat) : Prop := (∀ b, S b → S' b) ∧ ∀ p ∈ ps, ∀ fz e sz es, getOb H.h p = .row fz e sz es → S' (H.β p)
def LentB (S : Nat → Prop) (H : Hp) (S' : Nat → Prop) (ps : List Nat) : Prop := Lent S H S' ps ∧ ∀ p ∈ ps, ∀ t cs, getOb H.h p = .box t cs → S' (H.β p)
theorem Lent.mono {S H S' ps ps'} (h : Lent S H S' ps) (hs : ∀ p ∈ ps', p ∈ ps) : Lent S H S' ps' := ⟨h.1, fun p hp => h.2 p (hs p hp)⟩
theorem LentB.mono {S H S' ps ps'} (h : LentB S H S' ps) (hs : ∀ p ∈ ps', p ∈ ps) : LentB S H S' ps' := ⟨h.1.mono hs, fun p hp => h.2 p (hs p hp)⟩
theorem Lent.later {S' : Nat → Prop} {ps : List Nat} (h : Lent S H S' ps) : Later S H w S' H w := ⟨fun b hb _ => ⟨h.1 b hb, rfl⟩, Nat.le_refl _, fun p hp => ⟨hp, fun s hs => ⟨hs, rfl, rfl⟩⟩⟩
theorem Lent.later0 {S' : Nat → Prop} {ps : List Nat} (h : Lent S H S' ps) : Later S H0 w S' H0 w := ⟨fun b hb _ => ⟨h.1 b hb, rfl⟩, Nat.le_refl _, fun p hp => absurd (at_H0 p) hp⟩
theorem own_rep {S' : Nat → Prop} (hok : HeapOK S B H w) {p off len : Nat} {v : Value} {fz e sz es} (hl : Lent S H S' [p]) (ho : getOb H.h p = .row fz e sz es) (h : RepV S H w (.own p off len) v) :
    RepV S' H0 w (.ro sz ((es.drop off).take len)) v := by
  have hat := at_row ho
  simp only [RepV] at h
  obtain ⟨hv, hle⟩ := h.2.2 _ hat
  simp only at hv hle
  obtain ⟨⟨cur, vss, hh, hcs, h0, hn, hm, hll, hz, ht⟩, _⟩ := hok.row p fz e sz es ho
  have hlen : ((es.drop off).take len).length = len := by simp; omega
  simp only [RepV]
  refine ⟨_, _, by rw [hlen]; exact hv, by rw [hlen]; omega, by omega, .inr ⟨_, rfl, hl.2 p (by simp) _ _ _ _ ho, live_lt hok hat, (vss.drop off).take len, RepLL.later hl.later0 _ _ (RepLL.take _ (RepLL.drop _ hll)), fun vs hvs => hz vs (List.mem_of_mem_drop (List.mem_of_mem_take hvs)), fun i vs hi k u hk => ?_⟩⟩
  rw [List.getElem?_take] at hi
  split at hi
  · rw [List.getElem?_drop] at hi
    have hf := take_flatten (fun vs hv => (hz vs hv).1) hi hk
    rw [← ht, List.getElem?_take] at hf
    rw [addr_add, show off * sz + (i * sz + k) = (off + i) * sz + k by rw [Nat.add_mul]; omega, cell_of_row w _ _ cur e (0, 0) hh]
    split at hf
    · simpa using hf
    · cases hf
  · cases hi
theorem norm0_rep {S' : Nat → Prop} (hok : HeapOK S B H w) (x : AV) {v : Value} (hl : Lent S H S' (lent0 x)) (h : RepV S H w x v) : RepV S' H0 w (norm0 (getOb H.h) x) v := by
  cases x with
  | own p off len =>
    simp only [norm0]
    split
    · rename_i fz e sz es ho
      exact own_rep hok hl ho h
    · simp [RepV]
  | ro sz es => exact RepV.later hl.later0 (.ro sz es) v (by simpa [RepV] using h)
  | rp cs => exact RepV.later hl.later0 (.rp cs) v (by simpa [RepV] using h)
  | j => simp [norm0, RepV]
  | u => simpa [norm0, RepV] using h
  | int k n => simpa [norm0, RepV] using h
  | bool k => simpa [norm0, RepV] using h
  | str k => simpa [norm0, RepV] using h
  | nils => simpa [norm0, RepV] using h
  | nili => simpa [norm0, RepV] using h
  | fr e sz es => simp [RepV] at h
  | fn f cs =>
    cases cs with
    | nil => simpa [norm0, RepV, RepL] using h
    | cons _ _ => simp [norm0, RepV]
  | _ => simp [norm0, RepV]
theorem norm0L_rep {S' : Nat → Prop} (hok : HeapOK S B H w) : ∀ (xs : List AV) {vs : List Value}, Lent S H S' (lent0L xs) → RepL S H w xs vs → RepL S' H0 w (xs.map (norm0 (getOb H.h))) vs
  | [], vs, _, h => by simpa [RepL] using h
  | x :: xs, vs, hl, h => by
    simp only [RepL, List.map_cons] at h ⊢
    obtain ⟨v, r, e, hx, hr⟩ := h
    exact ⟨v, r, e, norm0_rep hok x (hl.mono (fun q hq => by simp [lent0L, hq])) hx, norm0L_rep hok xs (hl.mono (fun q hq => by simp [lent0L, hq])) hr⟩
theorem norm1_rep {S' : Nat → Prop} (hok : HeapOK S B H w) (n : Nat) (x : AV) {v : Value} (hl : LentB S H S' (lent1 (getOb H.h) x)) (h : RepV S H w x v) : RepV S' H0 w (norm1 (getOb H.h) n x) v := by
  cases x with
  | own p off len =>
    simp only [norm1]
    split
    · rename_i fz e sz es ho
      exact own_rep hok hl.1 ho h
    · simp [RepV]
  | bptr p c =>
    simp only [norm1]
    split
    · rename_i t cs ho
      have hat := at_box ho
      simp only [lent1, ho] at hl
      simp only [RepV] at h
      have hv := h.2.2 _ hat
      obtain ⟨vs, h1, h2, h3, h4⟩ := hok.box p t cs ho
      simp only [RepV]
      refine ⟨_, hv, hl.2 p (by simp) _ _ ho, live_lt hok hat, vs.drop c, ?_, fun u hu => h2 u (List.mem_of_mem_drop hu), fun k u hk => ?_⟩
      · rw [List.map_drop]
        exact RepL.drop c (norm0L_rep hok cs (hl.1.mono (fun q hq => by simp [hq])) h3)
      · rw [addr_add, cell_of_row w _ _ _ t (0, 0) h1]
        rw [List.getElem?_drop] at hk
        simpa using hk
    · simp [RepV]
  | nils => simp only [RepV] at h; subst h; simp only [norm1, RepV]; exact ⟨none, 0, rfl, by simp, by simp [maxLen], by simp⟩
  | ro sz es => exact RepV.later hl.1.later0 (.ro sz es) v (by simpa [RepV] using h)
  | rp cs => exact RepV.later hl.1.later0 (.rp cs) v (by simpa [RepV] using h)
  | j => simp [norm1, RepV]
  | u => simpa [norm1, RepV] using h
  | int k n => simpa [norm1, RepV] using h
  | bool k => simpa [norm1, RepV] using h
  | str k => simpa [norm1, RepV] using h
  | nili => simpa [norm1, RepV] using h
  | fr e sz es => simp [RepV] at h
  | _ => simp [norm1, RepV]
theorem normL_rep {S' : Nat → Prop} (hok : HeapOK S B H w) : ∀ (ns : List Nat) (xs : List AV) {vs : List Value}, LentB S H S' (lent1L (getOb H.h) xs) → RepL S H w xs vs → RepL S' H0 w (normL (getOb H.h) ns xs) vs
  | _, [], vs, _, h => by simpa [RepL, normL] using h
  | [], x :: xs, vs, hl, h => by
    simp only [RepL, normL] at h ⊢
    obtain ⟨v, r, e, hx, hr⟩ := h
    exact ⟨v, r, e, norm1_rep hok 0 x (hl.mono (fun q hq => by simp [lent1L, hq])) hx, normL_rep hok [] xs (hl.mono (fun q hq => by simp [lent1L, hq])) hr⟩
  | n :: ns, x :: xs, vs, hl, h => by
    simp only [RepL, normL] at h ⊢
    obtain ⟨v, r, e, hx, hr⟩ := h
    exact ⟨v, r, e, norm1_rep hok n x (hl.mono (fun q hq => by simp [lent1L, hq])) hx, normL_rep hok ns xs (hl.mono (fun q hq => by simp [lent1L, hq])) hr⟩
theorem norm_rep {S' : Nat → Prop} (hok : HeapOK S B H w) (ti : TI) (x : AV) {v : Value} (hl : LentB S H S' (lent (getOb H.h) x)) (h : RepV S H w x v) : RepV S' H0 w (norm (getOb H.h) ti x) v := by
  cases x with
  | agg cs =>
    simp only [RepV, norm, lent] at h hl ⊢
    obtain ⟨vs, e, h1, h2⟩ := h
    exact ⟨vs, e, h1, normL_rep hok _ cs hl h2⟩
  | fn f cs =>
    simp only [RepV, norm, lent] at h hl ⊢
    obtain ⟨vs, e, h2⟩ := h
    exact ⟨vs, e, normL_rep hok _ cs hl h2⟩
  | tup cs => simp [norm, RepV]
  | _ => exact norm1_rep hok (ti.csz.headD 0) _ hl h
end Go.V
namespace Go.V
open Go.RowKit
variable {P : Program} {gl : Gl} {T : Tab} {B : Base} {S : Nat → Prop} {H : Hp} {a : Act} {w : World} {E : Operand → AV} {n : Nat} {K : AV → List (Nat × Ob) → Prop} {dr : Bool}
theorem ok_eff {o : Oper} {x : AV} {d : List (Nat × Ob)} {u : Value} {S' : Nat → Prop} {H' : Hp} {w' : World} (h : (execOp a.eval o).run P w = .ok (.value u) w') (hk : K x d)
    (he : Eff gl B S H w S' H' w' d) (hx : RepV S' H' w' x u) : Ok1 P gl B S H a w o K :=
  fun next Q hn => wp_val h (hn x d u S' H' w' hk he hx)
theorem ok_skip {o : Oper} {d : List (Nat × Ob)} {S' : Nat → Prop} {H' : Hp} {w' : World} (h : (execOp a.eval o).run P w = .ok .skip w') (hk : K .u d)
    (he : Eff gl B S H w S' H' w' d) : Ok1 P gl B S H a w o K :=
  fun next Q hn => wp_skip' h (hn .u d undef S' H' w' hk he rep_u)
def Free (n : Nat) (H : Hp) (K : AV → List (Nat × Ob) → Prop) : Prop := ∀ x d, K x d → ∀ q ob, (q, ob) ∈ d → n ≤ q → getOb H.h q = .dead
theorem run_newObj (w : World) (o : Obj) : (newObj o).run P w = .ok w.heap.size (w.alloc o) := rfl
theorem ti_zero (hT : TOK P T) (t : TypeId) (hk : (T.ti t).k ≠ .bad) (w : World) : (zeroValue t).run P w = .ok (T.ti t).zv w := by
  have f := (hT.get hk).info
  cases hi : P.info? t with
  | none => rw [hi] at f; cases f
  | some i =>
    rw [hi] at f
    simp only [Option.map_some, Option.some.injEq, Prod.mk.injEq] at f
    simp [zeroValue, typeInfo, hi, f.1]
theorem put_at {H : Hp} {n : Nat} {ob : Ob} {b cap : Nat} : (H.put n ob b cap).at n = ob.sz ∧ (H.put n ob b cap).β n = b ∧ (H.put n ob b cap).κ n = cap := by
  simp [Hp.at, Hp.put, getOb_set]
theorem ok_alloc (hT : TOK P T) (hr : Opn gl B S H w E a) {o : Oper} {t : TypeId} (ho : o.op = .alloc t) (hf : Free n H K) (h : vop P gl T dr o.op E (getOb H.h) n K) : Ok1 P gl B S H a w o K := by
  rw [ho] at h
  simp only [vop] at h
  split at h
  · exact h.elim
  · rename_i hk
    have hk : (T.ti t).k ≠ .bad := fun e => hk e
    obtain ⟨hz, hz1, hzs, hzl⟩ := zero_rep hT hk S H w
    have E1 := eff_alloc hr.wd (n := n) (ob := .box t (T.ti t).zero) (cap := 0) (hf _ _ h n _ (List.mem_singleton.2 rfl) (Nat.le_refl _)) (.cells (T.ti t).zv.cells t) ⟨(T.ti t).zv.cells.toList, by simp, hz1, hz⟩
    refine ok_eff (u := .pointer (some ⟨w.heap.size, 0, none⟩)) ?_ h E1 ?_
    · simp [execOp, ho, Instr.alloc, ti_zero hT t hk w, newVar, newRow, run_newObj]
    · simp only [RepV]
      refine ⟨rfl, by rw [put_at.1]; simp [Ob.sz], fun _ _ => by rw [put_at.2.1]⟩
theorem ok_box (hr : Opn gl B S H w E a) {o : Oper} {t : TypeId} {x : Operand} (ho : o.op = .box t x) (hf : Free n H K) (h : vop P gl T dr o.op E (getOb H.h) n K) : Ok1 P gl B S H a w o K := by
  rw [ho] at h
  simp only [vop, chk_iff] at h
  obtain ⟨hsz, h⟩ := h
  obtain ⟨vs, hv, hvn, hv1, hvl, _⟩ := cells_rep hsz (hr.ev x)
  have E1 := eff_alloc hr.wd (n := n) (ob := .box t (cells (E x))) (cap := 0) (hf _ _ h n _ (List.mem_singleton.2 rfl) (Nat.le_refl _)) (.cells (a.eval x).cells t) ⟨vs, by rw [hv], hv1, hvl⟩
  refine ok_eff (u := .pointer (some ⟨w.heap.size, 0, none⟩)) ?_ h E1 ?_
  · simp [execOp, ho, Instr.box, newVar, newRow, run_newObj]
  · simp only [RepV]
    refine ⟨rfl, by rw [put_at.1]; simp [Ob.sz], fun _ _ => by rw [put_at.2.1]⟩
theorem ok_makeMap (hr : Opn gl B S H w E a) {o : Oper} {t : TypeId} (ho : o.op = .makeMap t none) (hf : Free n H K) (h : vop P gl T dr o.op E (getOb H.h) n K) : Ok1 P gl B S H a w o K := by
  rw [ho] at h
  simp only [vop] at h
  have E1 := eff_alloc hr.wd (n := n) (ob := .kv []) (cap := 0) (hf _ _ h n _ (List.mem_singleton.2 rfl) (Nat.le_refl _)) (.map #[] 0) ⟨#[], 0, rfl, by simp [RepKV]⟩
  refine ok_eff (u := .map (some w.heap.size)) ?_ h E1 ?_
  · simp [execOp, ho, Instr.makeMap, run_newObj]
  · simp only [RepV]
    refine ⟨rfl, by rw [put_at.1]; simp [Ob.sz], fun _ _ => by rw [put_at.2.1]⟩
theorem take_made (z : Array Value) (c l : Nat) (hz : 0 < z.size) (hl : l ≤ c) : (madeCells z (c * z.size)).toList.take (l * z.size) = (List.replicate l z.toList).flatten := by
  have hget : ∀ l k, k < l * z.size → (List.replicate l z.toList).flatten[k]? = z[k % z.size]? := by
    intro l
    induction l with
    | zero => intro k hk; simp at hk
    | succ l ih =>
      intro k hk
      rw [List.replicate_succ, List.flatten_cons]
      by_cases hlt : k < z.size
      · rw [List.getElem?_append_left (by simpa using hlt), Nat.mod_eq_of_lt hlt]; simp
      · rw [List.getElem?_append_right (by simp; omega)]
        have := ih (k - z.size) (by rw [Nat.succ_mul] at hk; omega)
        simp only [Array.length_toList]
        rw [this, Nat.mod_eq_sub_mod (Nat.le_of_not_lt hlt)]
  apply List.ext_getElem?
  intro k
  rw [List.getElem?_take]
  by_cases hk : k < l * z.size
  · rw [if_pos hk, hget l k hk]
    have : k < c * z.size := Nat.lt_of_lt_of_le hk (Nat.mul_le_mul_right _ hl)
    have hm : k % z.size < z.size := Nat.mod_lt _ hz
    simp [madeCells, this, hm]
  · rw [if_neg hk, List.getElem?_eq_none]
    simp
    omega
theorem repLL_replicate {S w} {xs : List AV} {vs : List Value} (h : RepL S H0 w xs vs) : ∀ n, RepLL S w (List.replicate n xs) (List.replicate n vs)
  | 0 => by simp [RepLL]
  | n + 1 => by simp only [List.replicate_succ, RepLL]; exact ⟨vs, _, rfl, h, repLL_replicate h n⟩
theorem ok_makeSlice (hT : TOK P T) (hr : Opn gl B S H w E a) {o : Oper} {t : TypeId} {x y : Operand} (ho : o.op = .makeSlice t x y) (hf : Free n H K) (h : vop P gl T dr o.op E (getOb H.h) n K) : Ok1 P gl B S H a w o K := by
  rw [ho] at h
  simp only [vop] at h
  have hx := hr.ev x
  have hy := hr.ev y
  split at h
  · rename_i l c e1 e2
    rw [e1] at hx; rw [e2] at hy; simp only [RepV] at hx hy
    obtain ⟨e, hu, hke, h⟩ := sl_ok hT h
    simp only [chk_iff] at h
    obtain ⟨hsz, h0, hlc, hc, hb, m, rfl, hK⟩ := h
    have hsz : 0 < (T.ti e).size := by simpa using hsz
    obtain ⟨hz, hz1, hzs, hzl⟩ := zero_rep hT hke S H0 w
    have hinfo := (hT.get hke).info
    cases hi : P.info? e with
    | none => rw [hi] at hinfo; cases hinfo
    | some i =>
      rw [hi] at hinfo
      simp only [Option.map_some, Option.some.injEq, Prod.mk.injEq] at hinfo
      obtain ⟨i1, i2, i3⟩ := hinfo
      have hrun := run_make (P := P) w t e i (T.ti e).zv hu hi i1 .i64 .i64 (m : Int) c h0 hlc (by rw [i3, Int.mul_comm]; omega) (by omega)
      rw [i2, ← hzs] at hrun
      have hc' : c.toNat ≤ maxLen := by simp only [maxLen]; omega
      have E1 := eff_alloc hr.wd (n := n) (ob := .row false e (T.ti e).size (List.replicate m (T.ti e).zero)) (cap := c.toNat) (hf _ _ hK n _ (List.mem_singleton.2 rfl) (Nat.le_refl _)) (.cells (madeCells (T.ti e).zv.cells (c.toNat * (T.ti e).zv.cells.size)) e)
        ⟨rfl, _, List.replicate m (T.ti e).zv.cells.toList, rfl, by rw [size_madeCells, hzs], hsz, by simp; omega, hc', repLL_replicate hz m, by
          intro vs hvs
          have := (List.mem_replicate.1 hvs).2
          subst this
          exact ⟨by simpa using hzs, hz1⟩, by
          rw [List.length_replicate, ← hzs]
          exact take_made _ _ _ (by rw [hzs]; exact hsz) (by omega)⟩
      refine ok_eff (u := .slice (some ⟨w.heap.size, 0, none⟩) m c.toNat) ?_ hK E1 ?_
      · simp [execOp, ho, hx, hy, hrun]
      · simp only [RepV]
        refine ⟨rfl, by rw [put_at.1]; simp [Ob.sz], fun s hs => ?_⟩
        rw [put_at.1] at hs
        simp only [Ob.sz, Option.some.injEq] at hs
        subst hs
        rw [put_at.2.1, put_at.2.2]
        simp
  · exact h.elim
end Go.V
namespace Go.V
open Go.RowKit
variable {P : Program} {gl : Gl} {T : Tab} {B : Base} {S : Nat → Prop} {H : Hp} {a : Act} {w : World} {E : Operand → AV} {n : Nat} {K : AV → List (Nat × Ob) → Prop} {dr : Bool}
theorem setRow_size (w : World) (g : Nat) (cs : Array Value) : (w.setRow g cs).heap.size = w.heap.size := by simp [World.setRow]
theorem run_storeVar_own (w : World) (b o : Nat) (t : TypeId) {vs : List Value} (v : Value) (hv : v.cells = vs.toArray) (hsz : ∀ w, (sizeOf t).run P w = .ok vs.length w) (h1 : One vs)
    (cur : Array Value) (ty : TypeId) (hg : w.heap[b]? = some (.cells cur ty (0, 0))) (hfit : o + vs.length ≤ cur.size) :
    (storeVar t ⟨b, o, none⟩ v).run P w = .ok () (w.setRow b (overV cur.toList o vs).toArray) := by
  have hst := run_storeCells_at P b o ty vs 0 cur w hg (by simpa using hfit) h1
  have e := overV_eq cur.toList o vs (by simpa using hfit)
  simp only [Nat.add_zero] at hst
  rw [e]
  simp [storeVar, hsz, hv, hst]
theorem overV_append : ∀ (x y : List Value) (n : Nat) (us : List Value), n + us.length ≤ x.length → overV (x ++ y) n us = overV x n us ++ y := by
  intro x y n us h
  rw [overV_eq _ _ _ (by simp; omega), overV_eq _ _ _ h, List.take_append_of_le_length (by omega), List.drop_append_of_le_length h]
  simp
theorem overV_shift : ∀ (x y : List Value) (n : Nat) (us : List Value), overV (x ++ y) (x.length + n) us = x ++ overV y n us
  | [], y, n, us => by simp
  | v :: x, y, n, us => by
    simp only [List.cons_append, List.length_cons]
    rw [show x.length + 1 + n = (x.length + n) + 1 by omega]
    show v :: overV (x ++ y) (x.length + n) us = _
    rw [overV_shift x y n us]
theorem overV_flatten {sz : Nat} : ∀ (vss : List (List Value)) (i c : Nat) (us xs : List Value), (∀ vs ∈ vss, vs.length = sz) → vss[i]? = some xs → c + us.length ≤ sz →
    overV vss.flatten (i * sz + c) us = (vss.set i (overV xs c us)).flatten
  | [], i, c, us, xs, _, h, _ => by simp at h
  | x :: vss, 0, c, us, xs, hz, h, hc => by
    simp at h; subst h
    simp only [Nat.zero_mul, Nat.zero_add, List.flatten_cons, List.set_cons_zero]
    exact overV_append _ _ _ _ (by rw [hz x (by simp)]; exact hc)
  | x :: vss, i + 1, c, us, xs, hz, h, hc => by
    simp only [List.flatten_cons, List.set_cons_succ]
    rw [show (i + 1) * sz + c = x.length + (i * sz + c) by rw [hz x (by simp), Nat.succ_mul]; omega, overV_shift, overV_flatten vss i c us xs (fun vs hv => hz vs (List.mem_cons_of_mem _ hv)) (by simpa using h) hc]
theorem cells_lent (S : Nat → Prop) {S' : Nat → Prop} {H' : Hp} {ps : List Nat} {d} (hok : HeapOK S B H w) (he : Eff gl B S H w S' H' w d) (hb : H'.β = H.β) (h1 : ∀ p ∈ ps, ∀ fz e sz es, getOb H.h p = .row fz e sz es → S' (H'.β p)) : Lent S H S' ps :=
  ⟨fun b hb => (he.later.blk b hb (hok.sb b hb)).1, fun p hp fz e sz es ho => by rw [← hb]; exact h1 p hp fz e sz es ho⟩
theorem TOK.get2 {P : Program} {T : Tab} (h : TOK P T) {t : Nat} (hk : (T.ti t).size ≠ 0) : TFact P t (T.ti t) := by
  induction T with
  | nil => exact absurd rfl hk
  | cons x r ih =>
    obtain ⟨k, ti⟩ := x
    unfold Tab.ti lk at hk ⊢
    cases hb : Nat.beq k t with
    | true =>
      simp only [hb] at hk ⊢
      rw [← Nat.eq_of_beq_eq_true hb]; exact h.1
    | false =>
      simp only [hb] at hk ⊢
      exact ih h.2 hk
theorem ti_size2 (hT : TOK P T) (t : TypeId) (hk : (T.ti t).size ≠ 0) (w : World) : (sizeOf t).run P w = .ok (T.ti t).size w := by
  have f := (hT.get2 hk).info
  cases hi : P.info? t with
  | none => rw [hi] at f; cases f
  | some i =>
    rw [hi] at f
    simp only [Option.map_some, Option.some.injEq, Prod.mk.injEq] at f
    simp [sizeOf, typeInfo, hi, f.2.1]
theorem ok_store (hT : TOK P T) (hr : Opn gl B S H w E a) {o : Oper} {t : TypeId} {x y : Operand} (ho : o.op = .store t x y) (h : vop P gl T dr o.op E (getOb H.h) n K) : Ok1 P gl B S H a w o K := by
  rw [ho] at h
  simp only [vop] at h
  have hx := hr.ev x
  have hy := hr.ev y
  unfold vstore at h
  have tsz : szOK (T.ti t).size (E y) = true → ∀ w : World, (sizeOf t).run P w = .ok (T.ti t).size w := fun hs => ti_size2 hT t (fun e => by rw [e] at hs; simp [szOK] at hs)
  split at h
  · rename_i p c e1
    split at h
    · rename_i ty cs hg
      simp only [chk_iff, Bool.and_eq_true] at h
      obtain ⟨⟨hsz, hle⟩, h⟩ := h
      have hle := Nat.le_of_ble_eq_true hle
      obtain ⟨vs, hv, hvn, hv1, hvl, hn0⟩ := cells_rep hsz hy
      have hat := at_box hg
      rw [e1] at hx; simp only [RepV] at hx
      have hxv := hx.2.2 _ hat
      obtain ⟨us, k1, k2, k3, k4⟩ := hr.wd.ok.box p ty cs hg
      have hlen := RepL.length k3
      have hrun := run_storeVar_own (P := P) w (H.β p) c t (a.eval y) hv (fun w => by rw [hvn]; exact tsz hsz w) hv1 _ ty k1 (by simp; omega)
      refine ok_skip (w' := w.setRow (H.β p) (overV us c vs).toArray) ?_ h (eff_set hr.wd hat (s := (0, 0)) rfl rfl rfl rfl (setRow_size _ _ _) (fun k hk => setRow_other _ _ _ _ hk) k4 ?_)
      · simp only [List.toList_toArray] at hrun
        simp [execOp, ho, hxv, Instr.storeAt, Instr.sureAddr, hrun]
      · refine ⟨overV us c vs, setRow_heap _ _ _ _ _ _ k1, fun u hu => ?_, over_rep c k3 hvl⟩
        rcases overV_mem _ _ _ u hu with hu | hu
        · exact k2 u hu
        · exact hv1 u hu
    · exact h.elim
  · rename_i p i c e1
    split at h
    · rename_i e sz es hg
      simp only [chk_iff, Bool.and_eq_true, Bool.not_eq_true'] at h
      obtain ⟨⟨hsz, hno⟩, hle, cs, hi, h⟩ := h
      have hle := Nat.le_of_ble_eq_true hle
      have hno : p ∉ lent0L (cells (E y)) := fun hm => by
        rw [List.any_eq_false] at hno
        exact hno p hm (by simp)
      obtain ⟨vs, hv, hvn, hv1, hvl, hn0⟩ := cells_rep hsz hy
      have hat := at_row hg
      rw [e1] at hx; simp only [RepV] at hx
      have hxv := hx.2.2 _ hat
      obtain ⟨S', H', E1, f1, f2, f3, f4, f5, f6, f7⟩ := eff_frzP (getOb H.h) (lent0L (cells (E y))) hr.wd (SameRows.refl _)
      have hg' : getOb H'.h p = .row false e sz es := by rw [f5 p hno]; exact hg
      have hl := cells_lent S hr.wd.ok E1 f2 f1
      have hvl' := norm0L_rep hr.wd.ok _ hl hvl
      obtain ⟨⟨cur, vss, k1, k2, k3, k4, k5, k6, k7, k8⟩, k9⟩ := E1.wd.ok.row p _ _ _ _ hg'
      have hilt : i < es.length := (List.getElem?_eq_some_iff.1 hi).1
      obtain ⟨xs, hxi, hxs⟩ := RepLL.get k6 hi
      have hxl := (k7 xs (List.mem_of_getElem? hxi)).1
      have hcur : es.length * sz ≤ cur.size := by rw [k2]; exact Nat.mul_le_mul_right _ k4
      have hfit1 : i * sz + c + vs.length ≤ es.length * sz := by
        have : (i + 1) * sz ≤ es.length * sz := Nat.mul_le_mul_right _ hilt
        rw [Nat.succ_mul] at this
        omega
      have hrun := run_storeVar_own (P := P) w (H'.β p) (i * sz + c) t (a.eval y) hv (fun w => by rw [hvn]; exact tsz hsz w) hv1 _ e k1 (by omega)
      have hflat : vss.flatten.length = es.length * sz := by rw [← k8]; simp; omega
      have E2 := eff_set E1.wd (p := p) (ob := .row false e sz (es.set i (over cs c ((cells (E y)).map (norm0 (getOb H.h)))))) (w' := w.setRow (H'.β p) (overV cur.toList (i * sz + c) vs).toArray) (at_row hg') (by simp [Ob.sz]) rfl rfl rfl (setRow_size _ _ _) (fun k hk => setRow_other _ _ _ _ hk)
        (by intro hs; exact absurd (k9.1 hs) (by simp))
        ⟨rfl, _, vss.set i (overV xs c vs), setRow_heap _ _ _ _ _ _ k1, by simp [overV_length, k2], k3, by simpa using k4, k5, RepLL.set k6 i (over_rep c hxs hvl'), by
          intro ws hws
          rcases List.mem_or_eq_of_mem_set hws with hws | rfl
          · exact k7 ws hws
          · refine ⟨by rw [overV_length]; exact hxl, fun u hu => ?_⟩
            rcases overV_mem _ _ _ u hu with hu | hu
            · exact (k7 xs (List.mem_of_getElem? hxi)).2 u hu
            · exact hv1 u hu, by
          simp only [List.length_set]
          rw [← overV_flatten vss i c vs xs (fun vs hv => (k7 vs hv).1) hxi (by omega), ← k8]
          conv => lhs; rw [← List.take_append_drop (es.length * sz) cur.toList]
          rw [overV_append _ _ _ _ (by simp; omega), List.take_append_of_le_length (by rw [overV_length]; simp; omega), List.take_of_length_le (by rw [overV_length]; simp; omega)]⟩
      refine ok_skip ?_ h (E1.trans E2)
      rw [f2] at hrun ⊢
      simp [execOp, ho, hxv, Instr.storeAt, Instr.sureAddr, hrun]
    · exact h.elim
  · exact h.elim
end Go.V
namespace Go.V
open Go.RowKit
variable {P : Program} {gl : Gl} {T : Tab} {B : Base} {S : Nat → Prop} {H : Hp} {a : Act} {w : World} {E : Operand → AV} {n : Nat} {K : AV → List (Nat × Ob) → Prop} {dr : Bool}
theorem lit_ok (hr : Opn gl B S H w E a) {S' : Nat → Prop} (ti : TI) : ∀ (ps : List (Nat × Operand)) (i : Nat) (es : List (List AV)), litElems (getOb H.h) ti i (ps.map fun p => (p.1, E p.2)) = some es →
    Lent S H S' (lent0P (ps.map fun p => (p.1, E p.2))) →
    ∃ vss : List (List Value), RepLL S' w es vss ∧ (∀ vs ∈ vss, vs.length = ti.size ∧ One vs) ∧ es.length = ps.length ∧
      (ps.map fun p => (p.1, a.eval p.2)) = ((ps.map fun p => a.eval p.2).zipIdx i).map (fun x => (x.2, x.1)) ∧ (∀ v ∈ ps.map (fun p => a.eval p.2), v.cells.size = ti.size) ∧
      (ps.map fun p => a.eval p.2).flatMap (fun v => v.cells.toList) = vss.flatten
  | [], i, es, h, _ => by
    simp only [List.map_nil, litElems, Option.some.injEq] at h
    subst h
    exact ⟨[], by simp [RepLL], by simp, rfl, rfl, by simp, rfl⟩
  | (k, x) :: ps, i, es, h, hl => by
    simp only [List.map_cons, litElems] at h
    split at h
    · rename_i hb
      simp only [Bool.and_eq_true] at hb
      obtain ⟨hk, hsz⟩ := hb
      have hk := Nat.eq_of_beq_eq_true hk
      subst hk
      cases hr' : litElems (getOb H.h) ti (k + 1) (ps.map fun p => (p.1, E p.2)) with
      | none => rw [hr'] at h; cases h
      | some es' =>
        rw [hr'] at h
        simp only [Option.map_some, Option.some.injEq] at h
        subst h
        obtain ⟨vss, k1, k2, k3, k4, k5, k6⟩ := lit_ok hr ti ps (k + 1) es' hr' (hl.mono fun q hq => by simp [lent0P, hq])
        obtain ⟨vs, hv, hvn, hv1, hvl, hn0⟩ := cells_rep hsz (hr.ev x)
        have hvl' := norm0L_rep hr.wd.ok _ (hl.mono fun q hq => by simp [lent0P, hq]) hvl
        refine ⟨vs :: vss, by simp only [RepLL]; exact ⟨vs, vss, rfl, hvl', k1⟩, ?_, by simp [k3], ?_, ?_, ?_⟩
        · intro us hus
          simp only [List.mem_cons] at hus
          rcases hus with rfl | hus
          · exact ⟨hvn, hv1⟩
          · exact k2 us hus
        · simp only [List.map_cons, List.zipIdx_cons, k4]
        · intro v hm
          simp only [List.map_cons, List.mem_cons] at hm
          rcases hm with rfl | hm
          · rw [hv]; simpa using hvn
          · exact k5 v hm
        · simp [hv, k6]
    · cases h
theorem flatten_length {sz : Nat} : ∀ {vss : List (List Value)}, (∀ vs ∈ vss, vs.length = sz) → vss.flatten.length = vss.length * sz
  | [], _ => by simp
  | x :: vss, h => by
    rw [List.flatten_cons, List.length_append, h x (by simp), flatten_length fun vs hv => h vs (List.mem_cons_of_mem _ hv), List.length_cons, Nat.succ_mul]; omega
theorem ok_buildSlice (hT : TOK P T) (hr : Opn gl B S H w E a) {o : Oper} {t : TypeId} {len : Nat} {ps : Array (Nat × Operand)} (ho : o.op = .buildSlice t len ps) (hf : Free n H K) (h : vop P gl T dr o.op E (getOb H.h) n K) : Ok1 P gl B S H a w o K := by
  rw [ho] at h
  simp only [vop] at h
  obtain ⟨e, hu, hke, h⟩ := sl_ok hT h
  split at h
  · rename_i es hes
    simp only [chk_iff, Bool.and_eq_true] at h
    obtain ⟨⟨⟨hlen, hle⟩, hpos⟩, h⟩ := h
    have hlen := Nat.eq_of_beq_eq_true hlen
    have hle := Nat.le_of_ble_eq_true hle
    have hpos : 0 < (T.ti e).size := by simpa using hpos
    obtain ⟨S', H', E1, f1, f2, f3, f4, f5, f6, f7⟩ := eff_frzP (getOb H.h) (lent0P (ps.toList.map fun p => (p.1, E p.2))) hr.wd (SameRows.refl _)
    have hl := cells_lent S hr.wd.ok E1 f2 f1
    obtain ⟨vss, k1, k2, k3, k4, k5, k6⟩ := lit_ok hr (T.ti e) ps.toList 0 es hes hl
    have hd : getOb H.h n = .dead := hf _ _ h n _ (List.mem_append.2 (.inr (List.mem_singleton.2 rfl))) (Nat.le_refl _)
    have hd' : getOb H'.h n = .dead := by rw [f6 n (by rw [hd]; simp)]; exact hd
    have hinfo := (hT.get hke).info
    cases hi : P.info? e with
    | none => rw [hi] at hinfo; cases hinfo
    | some i =>
      rw [hi] at hinfo
      simp only [Option.map_some, Option.some.injEq, Prod.mk.injEq] at hinfo
      obtain ⟨i1, i2, i3⟩ := hinfo
      have hvl : vss.length = len := by rw [RepLL.length k1]; exact hlen
      by_cases hl0 : len = 0
      · subst hl0
        have hps : ps = #[] := by
          have : ps.toList = [] := List.eq_nil_of_length_eq_zero (by omega)
          rw [← Array.toArray_toList (xs := ps), this]
        have hes0 : es = [] := List.eq_nil_of_length_eq_zero hlen
        subst hps hes0
        have E2 := eff_alloc E1.wd (n := n) (ob := .row false e (T.ti e).size []) (cap := 0) hd' (.cells #[] e)
          ⟨rfl, _, [], rfl, by simp, hpos, by simp, by simp, by simp [RepLL], by simp, by simp⟩
        refine ok_eff (u := .slice (some ⟨w.heap.size, 0, none⟩) 0 0) ?_ h (E1.trans E2) ?_
        · simp [execOp, ho, Instr.buildSlice, run_underlying hu, ti_size hT e hke w, Instr.fill, newRow, run_newObj, Array.range_zero']
        · simp only [RepV]
          refine ⟨rfl, by rw [put_at.1]; simp [Ob.sz], fun s hs => ?_⟩
          rw [put_at.1] at hs
          simp only [Ob.sz, Option.some.injEq] at hs
          subst hs
          rw [put_at.2.1, put_at.2.2]
          simp
      · have hfl := flatten_length (sz := (T.ti e).size) fun vs hv => (k2 vs hv).1
        have hfill : Instr.fill (fun i' => some (i' * i.size, i.size)) ((Array.range (len * i.size)).map ((T.ti e).zv.cells[· % (T.ti e).zv.cells.size]!)) (ps.map fun (i, x) => (i, a.eval x)).toList = some vss.flatten.toArray := by
          rw [Array.toList_map, i2]
          have := Go.Great.fill_whole hpos (ps.toList.map fun p => a.eval p.2) ((Array.range (len * (T.ti e).size)).map ((T.ti e).zv.cells[· % (T.ti e).zv.cells.size]!)) k5 (by simp [← hlen, k3])
          rw [k6, ← k4] at this
          exact this
        have hrun := run_buildSlice (P := P) w t e len (ps.map fun (i, x) => (i, a.eval x)) vss.flatten.toArray i (T.ti e).zv hu hi i1 (by rw [i2]; omega) (by rw [i2]; exact Nat.mul_ne_zero hl0 (by omega)) hfill
        have E2 := eff_alloc E1.wd (n := n) (ob := .row false e (T.ti e).size es) (cap := len) hd' (.cells vss.flatten.toArray e)
          ⟨rfl, _, vss, rfl, by simpa [hvl] using hfl, hpos, by omega, by simp only [maxLen]; have : len ≤ len * (T.ti e).size := Nat.le_mul_of_pos_right _ hpos; omega, k1, k2, by rw [List.take_of_length_le (by simp only [List.toList_toArray]; rw [hfl, hvl, hlen]; exact Nat.le_refl _)]⟩
        refine ok_eff (u := .slice (some ⟨w.heap.size, 0, none⟩) len len) ?_ h (E1.trans E2) ?_
        · simp only [execOp, ho, Sem.run_bind, hrun, Result.andThen_ok]; rfl
        · simp only [RepV]
          refine ⟨rfl, by rw [put_at.1]; simp [Ob.sz], fun s hs => ?_⟩
          rw [put_at.1] at hs
          simp only [Ob.sz, Option.some.injEq] at hs
          subst hs
          rw [put_at.2.1, put_at.2.2]
          simp [hlen]
  · exact h.elim
end Go.V
namespace Go.V
open Go.RowKit
variable {P : Program} {gl : Gl} {T : Tab} {B : Base} {S : Nat → Prop} {H : Hp} {a : Act} {w : World} {E : Operand → AV} {n : Nat} {K : AV → List (Nat × Ob) → Prop} {dr : Bool}
theorem slice_read (hok : HeapOK S B H w) {y : AV} {v : Value} {m sz : Nat} {new : List (List AV)} (hy : RepV S H w y v) (h : norm1 (getOb H.h) m y = .ro sz new) :
    ∃ A c, v = .slice A new.length c ∧ new.length ≤ maxLen ∧ (new = [] ∨ ∃ (ad : Addr) (vss : List (List Value)), A = some ad ∧ RepLL S w new vss ∧ (∀ vs ∈ vss, vs.length = sz ∧ One vs) ∧
      ∀ i vs, vss[i]? = some vs → ∀ k u, vs[k]? = some u → w.cell? (ad.add (i * sz + k)) = some u) := by
  cases y with
  | nils =>
    simp only [norm1, AV.ro.injEq] at h
    obtain ⟨rfl, rfl⟩ := h
    simp only [RepV] at hy
    exact ⟨none, 0, hy, by simp, .inl rfl⟩
  | ro sz' es =>
    simp only [norm1, AV.ro.injEq] at h
    obtain ⟨rfl, rfl⟩ := h
    simp only [RepV] at hy
    obtain ⟨A, c, e, h1, h2, h3⟩ := hy
    refine ⟨A, c, e, by omega, h3.imp id ?_⟩
    rintro ⟨ad, ea, _, _, vss, k1, k2, k3⟩
    exact ⟨ad, vss, ea, k1, k2, k3⟩
  | own p off len =>
    simp only [norm1] at h
    split at h
    · rename_i fz e sz' es ho
      simp only [AV.ro.injEq] at h
      obtain ⟨rfl, rfl⟩ := h
      have hat := at_row ho
      simp only [RepV] at hy
      obtain ⟨hv, hle⟩ := hy.2.2 _ hat
      simp only at hv hle
      obtain ⟨⟨cur, vss, hh, hcs, h0, hn, hm, hll, hz, ht⟩, _⟩ := hok.row p fz e sz' es ho
      have hlen : ((es.drop off).take len).length = len := by simp; omega
      refine ⟨_, _, by rw [hlen]; exact hv, by rw [hlen]; omega, .inr ⟨_, (vss.drop off).take len, rfl, RepLL.take _ (RepLL.drop _ hll), fun vs hvs => hz vs (List.mem_of_mem_drop (List.mem_of_mem_take hvs)), fun i vs hi k u hk => ?_⟩⟩
      rw [List.getElem?_take] at hi
      split at hi
      · rw [List.getElem?_drop] at hi
        have hf := take_flatten (fun vs hv => (hz vs hv).1) hi hk
        rw [← ht, List.getElem?_take] at hf
        rw [addr_add, show off * sz' + (i * sz' + k) = (off + i) * sz' + k by rw [Nat.add_mul]; omega, cell_of_row w _ _ cur e (0, 0) hh]
        split at hf
        · simpa using hf
        · cases hf
      · cases hi
    · cases h
  | bptr p c => simp only [norm1] at h; split at h <;> cases h
  | _ => simp [norm1] at h
theorem flatten_get {sz : Nat} (h0 : 0 < sz) {vss : List (List Value)} (hz : ∀ vs ∈ vss, vs.length = sz) {j : Nat} {u : Value} (h : vss.flatten[j]? = some u) : ∃ vs, vss[j / sz]? = some vs ∧ vs[j % sz]? = some u := by
  have hlt : j < vss.length * sz := by rw [← flatten_length hz]; exact (List.getElem?_eq_some_iff.1 h).1
  have hd : j / sz < vss.length := (Nat.div_lt_iff_lt_mul h0).2 hlt
  refine ⟨vss[j / sz], List.getElem?_eq_getElem hd, ?_⟩
  have hl := hz _ (List.getElem_mem hd)
  have hm : j % sz < sz := Nat.mod_lt _ h0
  have := take_flatten hz (List.getElem?_eq_getElem hd) (List.getElem?_eq_getElem (by rw [hl]; exact hm))
  rw [Nat.mul_comm, Nat.div_add_mod, h] at this
  rw [List.getElem?_eq_getElem (by rw [hl]; exact hm)]; exact this.symm
theorem run_append_zero (w : World) (t ty e : TypeId) (i : TypeInfo) (ht : P.underlying t = some (.slice e)) (hi : P.info? e = some i) (A : Option Addr) (c g n cap : Nat) (hn : n ≤ cap) :
    (Builtin.append_ #[t, t] ty #[.slice (some ⟨g, 0, none⟩) n cap, .slice A 0 c]).run P w = .ok (.slice (some ⟨g, 0, none⟩) n cap) w := by
  cases A with
  | none => simp [Builtin.append_, run_underlying ht, sizeOf, typeInfo, hi, Builtin.lenOf, Builtin.firstCells, hn, storeCells]
  | some ad => simp [Builtin.append_, run_underlying ht, sizeOf, typeInfo, hi, Builtin.lenOf, Builtin.firstCells, hn, storeCells, loadCells, loadCellsFrom]
theorem new_row {w' : World} {e sz base : Nat} {v' : Value} {es new : List (List AV)} {vss uss : List (List Value)} {m : Nat} (h0 : 0 < sz) (hes : RepLL S w es vss) (hnew : RepLL S w new uss)
    (hz : ∀ vs ∈ vss, vs.length = sz ∧ One vs) (hz' : ∀ vs ∈ uss, vs.length = sz ∧ One vs) (hm : m = (es ++ new).length) (hown : w'.ownsRow base e sz v' m (vss.flatten ++ uss.flatten)) (hne : v' ≠ .slice none 0 0) :
    ∃ g cap, v' = .slice (some ⟨g, 0, none⟩) m cap ∧ v'.ownBlock = some g ∧ m ≤ cap ∧ g < w'.heap.size ∧ NewAt S H w (w'.heap[g]?) cap (.row false e sz (es ++ new)) := by
  subst hm
  rcases hown.2 with ⟨h, _⟩ | ⟨g, cap, cur, rfl, _, hg, hnc, hcm, hcs, htake⟩
  · exact absurd h hne
  · refine ⟨g, cap, rfl, rfl, hnc, (Array.getElem?_eq_some_iff.1 hg).1, rfl, cur, vss ++ uss, hg, hcs, h0, hnc, hcm, RepLL.append hes hnew, ?_, by rw [List.flatten_append]; exact htake⟩
    intro vs hvs
    rcases List.mem_append.1 hvs with h | h
    · exact hz vs h
    · exact hz' vs h
theorem RowAt.take {b cap e sz : Nat} {es : List (List AV)} (h : RowAt S w b cap e sz es) (n : Nat) : RowAt S w b cap e sz (es.take n) := by
  obtain ⟨cur, vss, r1, r2, r3, r4, r5, r6, r7, r8⟩ := h
  refine ⟨cur, vss.take n, r1, r2, r3, by simp; omega, r5, RepLL.take n r6, fun vs hv => r7 vs (List.mem_of_mem_take hv), ?_⟩
  have e : (vss.take n).flatten = vss.flatten.take ((es.take n).length * sz) := by
    have hl := RepLL.length r6
    have hf : (vss.take n).flatten.length = (es.take n).length * sz := by
      rw [flatten_length (sz := sz) fun vs hv => (r7 vs (List.mem_of_mem_take hv)).1]; simp [hl]
    rw [← hf]
    conv => rhs; rw [← List.take_append_drop n vss, List.flatten_append]
    simp
  rw [e, ← r8, List.take_take]
  congr 1
  exact (Nat.min_eq_left (Nat.mul_le_mul_right _ (by simp; omega))).symm
theorem ok_append (hT : TOK P T) (hr : Opn gl B S H w E a) {o : Oper} {args : Array Operand} {ats : Array TypeId} (ho : o.op = .call { callee := .builtin .append, args, argTypes := ats }) (hf : Free n H K)
    (h : vop P gl T dr o.op E (getOb H.h) n K) : Ok1 P gl B S H a w o K := by
  rw [ho] at h
  simp only [vop] at h
  split at h
  · rename_i x y t t' ea et
    have ea : args = #[x, y] := by rw [← Array.toArray_toList (xs := args), ea]
    have et : ats = #[t, t'] := by rw [← Array.toArray_toList (xs := ats), et]
    subst ea et
    obtain ⟨rfl, h⟩ := h
    have hx := hr.ev x
    have hy := hr.ev y
    unfold vappend at h
    obtain ⟨e, hu, hke, h⟩ := sl_ok hT h
    have hinfo := (hT.get hke).info
    obtain ⟨hz0, _, hzs, _⟩ := zero_rep hT hke S H w
    cases hi : P.info? e with
    | none => rw [hi] at hinfo; cases hinfo
    | some i =>
    rw [hi] at hinfo
    simp only [Option.map_some, Option.some.injEq, Prod.mk.injEq] at hinfo
    obtain ⟨i1, i2, i3⟩ := hinfo
    split at h
    · rename_i sz new hnorm
      simp only [chk_iff, Bool.and_eq_true] at h
      obtain ⟨⟨⟨hsz, hpos⟩, hbp⟩, h⟩ := h
      have hsz := Nat.eq_of_beq_eq_true hsz
      have hpos : 0 < (T.ti e).size := by simpa using hpos
      subst hsz
      obtain ⟨A, c, hyv, hym, hread⟩ := slice_read hr.wd.ok hy hnorm
      have exec : ∀ v w', (Builtin.append_ #[t, t] o.type #[a.eval x, a.eval y]).run P w = .ok v w' → (execOp a.eval o).run P w = .ok (.value v) w' := fun v w' hrun => by
        simp [execOp, ho, resolve, invoke, builtin, hrun]
      have news : ∀ (ad : Addr) (vss : List (List Value)), (∀ vs ∈ vss, vs.length = (T.ti e).size ∧ One vs) → (∀ i vs, vss[i]? = some vs → ∀ k u, vs[k]? = some u → w.cell? (ad.add (i * (T.ti e).size + k)) = some u) →
          (∀ j u, vss.flatten[j]? = some u → w.cell? (ad.add j) = some u) ∧ ∀ u ∈ vss.flatten, u.oneCell' = true := fun ad vss hz hc => by
        refine ⟨fun j u hj => ?_, fun u hu => ?_⟩
        · obtain ⟨vs, h1, h2⟩ := flatten_get hpos (fun vs hv => (hz vs hv).1) hj
          have := hc _ vs h1 _ u h2
          rwa [Nat.mul_comm, Nat.div_add_mod] at this
        · obtain ⟨vs, h1, h2⟩ := List.mem_flatten.1 hu
          exact (hz vs h1).2 u h2
      split at h
      · -- onto nil
        rename_i e1
        obtain ⟨hb, hne, hK⟩ := h
        rw [e1] at hx; simp only [RepV] at hx
        rcases hread with hnil | ⟨ad, vss, rfl, k1, k2, k3⟩
        · exact absurd hnil hne
        have hlv := RepLL.length k1
        obtain ⟨n1, n2⟩ := news ad vss k2 k3
        obtain ⟨v', w', hrun, how, hgr, hnn, hat⟩ := run_append_own_at (P := P) w 0 t o.type e i (T.ti e).zv (T.ti e).size (T.ti e).bytes hu hi i1 i2 i3 hzs hpos (.slice none 0 0) 0 [] (World.ownsRow_nil _ _ _ _) ad new.length c vss.flatten
          (by rw [flatten_length fun vs hv => (k2 vs hv).1, hlv]) n1 n2 (by omega) (by simpa using hb) (Nat.zero_le _)
        have hv'ne : v' ≠ .slice none 0 0 := fun e => by
          have := (hnn.1 e).2
          exact hne (List.eq_nil_of_length_eq_zero this)
        obtain ⟨g, cap, rfl, hob, hncap, hglt, hNew⟩ := new_row (S := S) (H := H) (w := w) (es := []) (vss := []) hpos (by simp [RepLL]) k1 (by simp) k2 (by simp) how hv'ne
        have hg : g = w.heap.size := by
          rcases hat with hat | hat
          · simp [Value.ownBlock] at hat
          · simpa [Value.ownBlock] using hat
        have E1 := eff_world hr.wd (w' := w') hgr.os hgr.tape hgr.output hgr.size (fun k hk => hgr.block k hk (by simp [Value.ownBlock]))
        have E2 := eff_new E1.wd (n := n) (b := g) (cap := cap) (hf _ _ hK n _ (List.mem_singleton.2 rfl) (Nat.le_refl _)) (fun hs => by have := hr.wd.ok.sb _ hs; omega) (fun q s hq e => by have := live_lt hr.wd.ok hq; omega) (.inl (by have := hr.wd.kept.size; omega)) (hNew.later E1.later)
        refine ok_eff (exec _ w' (by rw [hx, hyv]; exact hrun)) hK (E1.trans E2) ?_
        simp only [RepV]
        refine ⟨rfl, by rw [put_at.1]; simp [Ob.sz], fun s hs => ?_⟩
        rw [put_at.1] at hs
        simp only [Ob.sz, Option.some.injEq] at hs
        subst hs
        rw [put_at.2.1, put_at.2.2]
        simp
      · -- onto a row of the call's own
        rename_i p len e1
        split at h
        · rename_i e' sz' es hg
          obtain ⟨⟨he', hs'⟩, hll, hb, r, rfl, hK⟩ := h
          have he' := Nat.eq_of_beq_eq_true he'
          have hs' := Nat.eq_of_beq_eq_true hs'
          subst he' hs'
          have hat := at_row hg
          rw [e1] at hx; simp only [RepV] at hx
          obtain ⟨hxv, hle⟩ := hx.2.2 _ hat
          simp only [Nat.zero_mul, Nat.sub_zero] at hxv
          obtain ⟨hrw, r9⟩ := hr.wd.ok.row p _ _ _ _ hg
          have hrw := hrw.take len
          have hl1 : (es.take len).length = len := by simp; omega
          generalize es.take len = es1 at hrw hl1 hK
          subst hl1
          obtain ⟨cur, vss, r1, r2, r3, r4, r5, r6, r7, r8⟩ := hrw
          have hown : w.ownsRow 0 e' (T.ti e').size (a.eval x) es1.length vss.flatten := ⟨by rw [flatten_length fun vs hv => (r7 vs hv).1, RepLL.length r6], .inr ⟨H.β p, H.κ p, cur, hxv, Nat.zero_le _, r1, r4, r5, r2, r8⟩⟩
          have hdn : getOb H.h n = .dead := hf _ _ hK n _ (List.mem_cons_of_mem _ (List.mem_singleton.2 rfl)) (Nat.le_refl _)
          have hnp : n ≠ p := fun e => by subst e; rw [hg] at hdn; cases hdn
          have hSp : ¬ S (H.β p) := fun hs => absurd (r9.1 hs) (by simp)
          have hMp := hr.wd.ok.mine p _ hat hSp
          have main : ∃ v' w', (Builtin.append_ #[t, t] o.type #[a.eval x, a.eval y]).run P w = .ok v' w' ∧ w.grownBy w' (some (H.β p)) ∧
              ∃ g cap, v' = .slice (some ⟨g, 0, none⟩) (es1 ++ new).length cap ∧ (g = H.β p ∨ g = w.heap.size) ∧ NewAt S H w (w'.heap[g]?) cap (.row false e' (T.ti e').size (es1 ++ new)) := by
            rcases hread with rfl | ⟨ad, uss, rfl, k1, k2, k3⟩
            · refine ⟨_, w, by rw [hxv, hyv]; exact run_append_zero w t o.type e' i hu hi A c _ _ _ r4, ⟨rfl, rfl, rfl, Nat.le_refl _, fun _ _ _ => rfl⟩, H.β p, H.κ p, by simp, .inl rfl, ?_⟩
              rw [List.append_nil]
              exact ⟨rfl, cur, vss, r1, r2, r3, r4, r5, r6, r7, r8⟩
            · have hlv := RepLL.length k1
              obtain ⟨n1, n2⟩ := news ad uss k2 k3
              obtain ⟨v', w', hrun, how, hgr, hnn, hat'⟩ := run_append_own_at (P := P) w 0 t o.type e' i (T.ti e').zv (T.ti e').size (T.ti e').bytes hu hi i1 i2 i3 hzs hpos (a.eval x) es1.length vss.flatten hown ad new.length c uss.flatten
                (by rw [flatten_length fun vs hv => (k2 vs hv).1, hlv]) n1 n2 (by
                  have hby : (es1.length + new.length) * (T.ti e').bytes ≤ 140737488355328 := hb
                  have hbp : 0 < (T.ti e').bytes := by simpa using hbp
                  have := Nat.le_mul_of_pos_right (es1.length + new.length) hbp
                  simp only [maxLen]; omega) hb (Nat.zero_le _)
              have hv'ne : v' ≠ .slice none 0 0 := fun e => by
                have := (hnn.1 e).1
                rw [hxv] at this; cases this
              obtain ⟨g, cap, rfl, hob, hncap, hglt, hNew⟩ := new_row (S := S) (H := H) (w := w) hpos r6 k1 r7 k2 (by simp) how hv'ne
              refine ⟨_, w', by rw [hyv]; exact hrun, ?_, g, cap, by simp, ?_, hNew⟩
              · rw [hxv] at hgr; exact hgr
              · rw [hxv] at hat'
                rcases hat' with hat' | hat'
                · exact .inl (by simpa [Value.ownBlock] using hat')
                · exact .inr (by simpa [Value.ownBlock] using hat')
          obtain ⟨v', w', hrun, hgr, g, cap, rfl, hgg, hNew⟩ := main
          have E1 := eff_gone hr.wd (p := p)
          have hat1 : ∀ q s, (H.upd p .gone).at q = some (some s) → q ≠ p ∧ H.at q = some (some s) := fun q s hq => by
            unfold Hp.at at hq ⊢
            simp only [Hp.upd, getOb_set] at hq
            split at hq
            · cases hq
            · exact ⟨‹_›, hq⟩
          have E2 := eff_world' E1.wd (w' := w') (fun k => k = H.β p) (fun k hk => by
            subst hk
            refine ⟨hSp, fun q s hq e => ?_, hMp⟩
            obtain ⟨h1, h2⟩ := hat1 q s hq
            exact h1 (hr.wd.ok.inj q p _ _ h2 hat e (e ▸ hSp))) hgr.os hgr.tape hgr.output hgr.size (fun k hk hx => hgr.block k hk (fun e => hx (by simpa using e)))
          have hgb : ∀ q s, (H.upd p .gone).at q = some (some s) → H.β q ≠ g := fun q s hq e => by
            obtain ⟨h1, h2⟩ := hat1 q s hq
            rcases hgg with rfl | rfl
            · exact h1 (hr.wd.ok.inj q p _ _ h2 hat e (e ▸ hSp))
            · exact Nat.lt_irrefl _ (e ▸ live_lt hr.wd.ok h2)
          have E3 := eff_new E2.wd (n := n) (b := g) (cap := cap) (ob := .row false e' (T.ti e').size (es1 ++ new)) (by simp only [Hp.upd, getOb_set]; rw [if_neg hnp]; exact hdn)
            (fun hs => by
              rcases hgg with rfl | rfl
              · exact hSp hs
              · exact Nat.lt_irrefl _ (hr.wd.ok.sb _ hs)) hgb (by
              rcases hgg with rfl | rfl
              · exact hMp
              · exact .inl hr.wd.kept.size) (hNew.later (E1.later.trans E2.later))
          refine ok_eff (exec _ w' hrun) hK (by have := E1.trans (E2.trans E3); simpa using this) ?_
          simp only [RepV]
          refine ⟨rfl, by rw [put_at.1]; simp [Ob.sz], fun s hs => ?_⟩
          rw [put_at.1] at hs
          simp only [Ob.sz, Option.some.injEq] at hs
          subst hs
          rw [put_at.2.1, put_at.2.2]
          simp
        · exact h.elim
      · exact h.elim
    · exact h.elim
  · exact h.elim
end Go.V
namespace Go.V
open Go.RowKit
variable {P : Program} {gl : Gl} {T : Tab} {B : Base} {S : Nat → Prop} {H : Hp} {a : Act} {w : World} {E : Operand → AV} {n : Nat} {K : AV → List (Nat × Ob) → Prop} {dr : Bool}
theorem setK_rep {S H w} (x : ByteArray) {y : AV} {u : Value} (hu : RepV S H w y u) (born : Nat) : ∀ (l : List (ByteArray × AV)) (es : List MapEntry) (i : Nat), RepKV S H w l es →
    (Instr.findNow .string (.string x) es i = some none ∧ RepKV S H w (setK l x y) (es ++ [⟨.string x, u, born⟩])) ∨
    ∃ z j ent, Instr.findNow .string (.string x) es i = some (some (i + j, z)) ∧ es[j]? = some ent ∧ ent.key = .string x ∧ RepKV S H w (setK l x y) (es.modify j fun e => { e with key := .string x, val := u })
  | [], es, i, h => by
    simp only [RepKV] at h; subst h
    exact .inl ⟨rfl, by simp only [setK, List.nil_append, RepKV]; exact ⟨u, born, [], rfl, hu, rfl⟩⟩
  | (k, v) :: r, es, i, h => by
    simp only [RepKV] at h
    obtain ⟨v', b, es', rfl, hv, hr⟩ := h
    by_cases e : x = k
    · subst e
      refine .inr ⟨v', 0, _, by simp [Instr.findNow, (same_str x x).1 rfl], rfl, rfl, ?_⟩
      simp only [setK, if_pos, List.modify_zero_cons, RepKV]
      exact ⟨u, b, es', rfl, hu, hr⟩
    · have hs := (same_str x k).2 e
      rcases setK_rep x hu born r es' (i + 1) hr with ⟨h1, h2⟩ | ⟨z, j, ent, h1, h2, h3, h4⟩
      · refine .inl ⟨by simp [Instr.findNow, hs, h1], ?_⟩
        simp only [setK, e, if_false, List.cons_append, RepKV]
        exact ⟨v', b, _, rfl, hv, h2⟩
      · refine .inr ⟨z, j + 1, ent, ?_, by simpa using h2, h3, ?_⟩
        · simp only [Instr.findNow, hs, h1]
          rw [show i + 1 + j = i + (j + 1) by omega]
        · simp only [setK, e, if_false, List.modify_succ_cons, RepKV]
          exact ⟨v', b, _, rfl, hv, h4⟩
theorem ok_mapUpdate (hT : TOK P T) (hr : Opn gl B S H w E a) {o : Oper} {t : TypeId} {m k v : Operand} (ho : o.op = .mapUpdate t m k v ∨ o.op = .insert t m k v) (h : vop P gl T dr o.op E (getOb H.h) n K) : Ok1 P gl B S H a w o K := by
  have h : vop P gl T dr (.mapUpdate t m k v) E (getOb H.h) n K := by rcases ho with ho | ho <;> rw [ho] at h <;> exact h
  simp only [vop] at h
  have hm := hr.ev m
  have hk := hr.ev k
  have hv := hr.ev v
  split at h
  · rename_i e hkd
    obtain ⟨kt, hu, huk⟩ := und_map hT hkd
    split at h
    · rename_i p x e1 e2
      split at h
      · rename_i l hg
        obtain ⟨r, rfl, hK⟩ := h
        rw [e1] at hm; rw [e2] at hk; simp only [RepV] at hm hk
        have hmv := hm.2.2 _ (at_kv hg)
        obtain ⟨es, c, hb, hl, hs⟩ := hr.wd.ok.kv p l hg
        have hck : (Instr.checkKey false 10000 kt (.string x)).run P w = .ok () w := MapKept.run_checkKey (k := .string x) huk (by simp [MapKept.IsKey]) _ 9999
        have fin : ∀ es' c', (Instr.mapUpdate t (.map (some (H.β p))) (.string x) (a.eval v)).run P w = .ok () { w with heap := w.heap.setIfInBounds (H.β p) (.map es' c') } → RepKV S H w (setK l x (E v)) es'.toList → Ok1 P gl B S H a w o K := fun es' c' hrun hrep => by
          have hset := MapKept.heap_set (o' := .map es' c') hb
          refine ok_skip ?_ hK (eff_set hr.wd (w' := { w with heap := w.heap.setIfInBounds (H.β p) (.map es' c') }) (at_kv hg) rfl rfl rfl rfl (by simp) hset.2 hs ⟨es', c', hset.1, hrep⟩)
          rcases ho with ho | ho <;> simp [execOp, ho, hmv, hk, hrun]
        rcases setK_rep x hv c l es.toList 0 hl with ⟨h1, h2⟩ | ⟨z, j, ent, h1, h2, h3, h4⟩
        · refine fin (es.push ⟨.string x, a.eval v, c⟩) (c + 1) ?_ (by simpa using h2)
          simp [Instr.mapUpdate, run_underlying hu, MapKept.run_getObj_map hb, hck, MapKept.run_findKey huk h1, MapKept.run_setObj_map _ hb]
        · refine fin (es.modify j fun e => { e with key := .string x, val := a.eval v }) c ?_ (by simpa using h4)
          have hj : es[j]? = some ent := by simpa using h2
          have hbe : (x == x) = true := (MapKept.bytes_beq x x).2 rfl
          simp [Instr.mapUpdate, run_underlying hu, MapKept.run_getObj_map hb, hck, MapKept.run_findKey huk h1, MapKept.run_setObj_map _ hb, hj, h3, Instr.keyThatStays, Instr.sameBits, hbe]
      · exact h.elim
    · exact h.elim
  · exact h.elim
theorem ok_range (hT : TOK P T) (hr : Opn gl B S H w E a) {o : Oper} {t : TypeId} {x : Operand} (ho : o.op = .range t x) (hf : Free n H K) (h : vop P gl T dr o.op E (getOb H.h) n K) : Ok1 P gl B S H a w o K := by
  rw [ho] at h
  simp only [vop] at h
  have hx := hr.ev x
  split at h
  · rename_i hk
    split at h
    · rename_i s e
      rw [e] at hx; simp only [RepV] at hx
      have E1 := eff_alloc hr.wd (n := n) (ob := .iter s 0) (cap := 0) (hf _ _ h n _ (List.mem_singleton.2 rfl) (Nat.le_refl _)) (.stringIter s 0) rfl
      refine ok_eff (u := .pointer (some ⟨w.heap.size, 0, none⟩)) ?_ h E1 ?_
      · simp [execOp, ho, Instr.range, hx, run_underlying (und_str hT hk), run_newObj]
      · simp only [RepV]
        refine ⟨rfl, by rw [put_at.1]; simp [Ob.sz], fun _ _ => by rw [put_at.2.1]⟩
    · exact h.elim
  · exact h.elim
theorem run_getObj_of {r : Nat} {s : ByteArray} {k : Nat} (hb : w.heap[r]? = some (.stringIter s k)) : (getObj r).run P w = .ok (.stringIter s k) w := by
  simp [getObj, Sem.run, hb]
theorem run_setObj_iter {r : Nat} {s : ByteArray} {k : Nat} (o : Obj) (hb : w.heap[r]? = some (.stringIter s k)) : (setObj r o).run P w = .ok () { w with heap := w.heap.setIfInBounds r o } := by
  simp [setObj, Sem.run, hb]
theorem ok_next (hr : Opn gl B S H w E a) {o : Oper} {x : Operand} (ho : o.op = .next x true) (h : vop P gl T dr o.op E (getOb H.h) n K) : Ok1 P gl B S H a w o K := by
  rw [ho] at h
  simp only [vop] at h
  have hx := hr.ev x
  split at h
  · rename_i p e
    split at h
    · rename_i s k hg
      obtain ⟨hb, hs⟩ := hr.wd.ok.it p s k hg
      rw [e] at hx; simp only [RepV] at hx
      have hv := hx.2.2 _ (at_iter hg)
      split at h
      · rename_i hlt
        have hlt : k < s.size := by simpa using hlt
        obtain ⟨c, m, hd, h⟩ := h
        have hset := MapKept.heap_set (o' := .stringIter s (k + m)) hb
        refine ok_eff (u := .tuple #[.bool true, goInt k, .int .i32 c]) (w' := { w with heap := w.heap.setIfInBounds (H.β p) (.stringIter s (k + m)) }) ?_ h
          (eff_set hr.wd (at_iter hg) rfl rfl rfl rfl (by simp) hset.2 hs hset.1) ?_
        · simp [execOp, ho, Instr.next, hv, run_getObj_of hb, hlt, ← hd, run_setObj_iter _ hb]
        · simp only [RepV, RepL]
          exact ⟨[.bool true, goInt k, .int .i32 c], rfl, _, _, rfl, rfl, _, _, rfl, rfl, _, _, rfl, rfl, rfl⟩
      · rename_i hlt
        have hlt : ¬ k < s.size := by
          intro hh
          have : Nat.blt k s.size = true := by simpa using hh
          simp [this] at hlt
        refine ok_val hr (u := .tuple #[.bool false]) ?_ h ?_
        · simp [execOp, ho, Instr.next, hv, run_getObj_of hb, hlt]
        · simp only [RepV, RepL]
          exact ⟨[.bool false], rfl, _, _, rfl, rfl, rfl⟩
    · exact h.elim
  · exact h.elim
end Go.V
namespace Go.V
open Go.RowKit
variable {P : Program} {gl : Gl} {T : Tab} {B : Base} {S : Nat → Prop} {H : Hp} {a : Act} {w : World} {E : Operand → AV} {n : Nat} {K : AV → List (Nat × Ob) → Prop} {dr : Bool}
theorem ok_conv (hT : TOK P T) (hr : Opn gl B S H w E a) {o : Oper} {s d : TypeId} {x : Operand} (ho : o.op = .convert s d x) (h : vop P gl T dr o.op E (getOb H.h) n K) : Ok1 P gl B S H a w o K := by
  rw [ho] at h
  simp only [vop] at h
  unfold vconv at h
  have hx := hr.ev x
  split at h
  · rename_i k0 hs
    have us := und_int hT hs
    split at h
    · rename_i k k' n hd e
      have ud := und_int hT hd
      obtain ⟨r, rfl, hK⟩ := h
      rw [e] at hx; simp only [RepV] at hx
      exact ok_val hr (by simp [execOp, ho, hx, convert, run_underlying us, run_underlying ud, Conv.intToInt]) hK (rep_int _ _)
    · exact h.elim
  · rename_i hs
    have us := und_str hT hs
    split at h
    · rename_i s' hd e
      have ud := und_str hT hd
      rw [e] at hx; simp only [RepV] at hx
      exact ok_val hr (by simp [execOp, ho, hx, convert, run_underlying us, run_underlying ud]) h (rep_str _)
    · exact h.elim
  · rename_i e hs
    have us := und_slice hT hs
    split at h
    · rename_i he
      have ue := und_int hT he
      split at h
      · rename_i hd
        have ud := und_str hT hd
        split at h
        · rename_i es hnorm
          obtain ⟨bs, rfl, hK⟩ := h
          obtain ⟨A, c, hv, _, hread⟩ := slice_read hr.wd.ok hx hnorm
          refine ok_val hr (u := .string (sN bs)) ?_ hK (rep_str _)
          have hrun : (convert s d (a.eval x)).run P w = .ok (.string (sN bs)) w := by
            rw [hv, run_convert_bytes_string w s d e _ _ _ us ue ud]
            rcases hread with hnil | ⟨ad, vss, rfl, k1, k2, k3⟩
            · have hb : bs = [] := by simpa using hnil
              subst hb
              cases A with
              | none => simp [Conv.bytesToString, sN]
              | some ad => exact run_bytesToString w ad 0 c [] (by simp [loadCells, loadCellsFrom])
            · have hl : (bs.map fun b => ([AV.int .u8 b] : List AV)).length = bs.length := by simp
              rw [hl]
              refine run_bytesToString w ad bs.length c bs ?_
              have e2 : ∀ (bs : List Int) (vss : List (List Value)), RepLL S w (bs.map fun b => [AV.int .u8 b]) vss → vss = bs.map fun b => [Value.int .u8 b] := by
                intro bs
                induction bs with
                | nil => intro vss h; simpa [RepLL] using h
                | cons b bs ih =>
                  intro vss h
                  simp only [List.map_cons, RepLL, RepL, RepV] at h
                  obtain ⟨v, r, rfl, ⟨u, q, rfl, rfl, rfl⟩, hr⟩ := h
                  rw [ih r hr]; rfl
              have e3 := e2 bs vss k1
              subst e3
              have := run_loadCells_list (P := P) w ad (bs.map (Value.int .u8)) (fun j v hj => by
                rw [List.getElem?_map] at hj
                cases hb : bs[j]? with
                | none => rw [hb] at hj; cases hj
                | some b =>
                  rw [hb] at hj
                  simp only [Option.map_some, Option.some.injEq] at hj
                  subst hj
                  have := k3 j [.int .u8 b] (by rw [List.getElem?_map, hb]; rfl) 0 _ rfl
                  simpa using this)
              simpa using this
          simp only [execOp, ho]
          rw [Sem.run_bind, hrun]; rfl
        · exact h.elim
      · exact h.elim
    · exact h.elim
  · exact h.elim
end Go.V
namespace Go.V
open Go.RowKit
variable {P : Program} {gl : Gl} {T : Tab} {B : Base} {S : Nat → Prop} {H : Hp} {a : Act} {w : World} {E : Operand → AV} {n : Nat} {K : AV → List (Nat × Ob) → Prop} {dr : Bool}
mutual
theorem flat_rep {S S' : Nat → Prop} {w : World} : ∀ (x : AV) (v : Value), Flat x → RepV S H0 w x v → RepV S' H0 w x v
  | .j, _, _, _ => by simp [RepV]
  | .u, _, _, h | .int _ _, _, _, h | .bool _, _, _, h | .str _, _, _, h | .nils, _, _, h | .nili, _, _, h => by simpa [RepV] using h
  | .own _ _ _, _, _, h => by simp only [RepV] at h ⊢; exact h
  | .ptr _ _ _, _, _, h | .bptr _ _, _, _, h | .map _, _, _, h => by simp only [RepV] at h ⊢; exact h
  | .fr _ _ _, _, _, h => by simp [RepV] at h
  | .rp _, _, f, _ => by simp [Flat] at f
  | .ro sz es, v, f, h => by
    simp only [Flat] at f; subst f
    simp only [RepV] at h ⊢
    obtain ⟨A, c, e, h1, h2, _⟩ := h
    exact ⟨A, c, e, h1, h2, by simp⟩
  | .agg cs, v, f, h => by
    simp only [RepV, Flat] at f h ⊢
    obtain ⟨vs, e, h1, h2⟩ := h
    exact ⟨vs, e, h1, flat_repL cs vs f h2⟩
  | .tup cs, v, f, h | .fn _ cs, v, f, h => by
    simp only [RepV, Flat] at f h ⊢
    obtain ⟨vs, e, h2⟩ := h
    exact ⟨vs, e, flat_repL cs vs f h2⟩
  | .iface t x, v, f, h => by
    simp only [RepV, Flat] at f h ⊢
    obtain ⟨u, e, h2⟩ := h
    exact ⟨u, e, flat_rep x u f h2⟩
theorem flat_repL {S S' : Nat → Prop} {w : World} : ∀ (xs : List AV) (vs : List Value), FlatL xs → RepL S H0 w xs vs → RepL S' H0 w xs vs
  | [], vs, _, h => by simpa [RepL] using h
  | x :: xs, vs, f, h => by
    simp only [RepL, FlatL] at f h ⊢
    obtain ⟨v, r, e, h1, h2⟩ := h
    exact ⟨v, r, e, flat_rep x v f.1 h1, flat_repL xs r f.2 h2⟩
end
theorem flat_repLL {S S' : Nat → Prop} {w : World} : ∀ (es : List (List AV)) (vss : List (List Value)), (∀ cs ∈ es, FlatL cs) → RepLL S w es vss → RepLL S' w es vss
  | [], vss, _, h => by simpa [RepLL] using h
  | x :: xs, vss, f, h => by
    simp only [RepLL] at h ⊢
    obtain ⟨v, r, e, h1, h2⟩ := h
    exact ⟨v, r, e, flat_repL x v (f x (by simp)) h1, flat_repLL xs r (fun cs hc => f cs (List.mem_cons_of_mem _ hc)) h2⟩
mutual
theorem flat_repF {S S' : Nat → Prop} {b : Nat} {w : World} : ∀ (x : AV) (v : Value) (F : List (Nat × Nat)), Flat x → RepF S b w x v F → RepF S' b w x v F
  | .fr e sz es, v, F, f, h => by
    simp only [RepF, Flat] at f h ⊢
    obtain ⟨b', cap, h1, h2, h3, cur, vss, k1, k2, k3, k4, k5, k6, k7⟩ := h
    exact ⟨b', cap, h1, h2, h3, cur, vss, k1, k2, k3, k4, k5, flat_repLL es vss f k6, k7⟩
  | .agg cs, v, F, f, h => by
    simp only [RepF, Flat] at f h ⊢
    obtain ⟨vs, e, h1, h2⟩ := h
    exact ⟨vs, e, h1, flat_repFL cs vs F f h2⟩
  | .tup cs, v, F, f, h => by
    simp only [RepF, Flat] at f h ⊢
    obtain ⟨vs, e, h2⟩ := h
    exact ⟨vs, e, flat_repFL cs vs F f h2⟩
  | .j, v, F, f, h | .u, v, F, f, h | .int _ _, v, F, f, h | .bool _, v, F, f, h | .str _, v, F, f, h | .nils, v, F, f, h | .nili, v, F, f, h
  | .own _ _ _, v, F, f, h | .ptr _ _ _, v, F, f, h | .bptr _ _, v, F, f, h | .map _, v, F, f, h | .rp _, v, F, f, h | .ro _ _, v, F, f, h | .fn _ _, v, F, f, h | .iface _ _, v, F, f, h => by
    simp only [RepF] at h ⊢
    exact ⟨h.1, flat_rep _ _ f h.2⟩
theorem flat_repFL {S S' : Nat → Prop} {b : Nat} {w : World} : ∀ (xs : List AV) (vs : List Value) (F : List (Nat × Nat)), FlatL xs → RepFL S b w xs vs F → RepFL S' b w xs vs F
  | [], vs, F, _, h => by simpa [RepFL] using h
  | x :: xs, vs, F, f, h => by
    simp only [RepFL, FlatL] at f h ⊢
    obtain ⟨v, r, F1, F2, e, e', h1, h2⟩ := h
    exact ⟨v, r, F1, F2, e, e', flat_repF x v F1 f.1 h1, flat_repFL xs r F2 f.2 h2⟩
end
mutual
theorem roQ_flat : ∀ (x : AV), roQ x = some false → Flat x
  | .ro sz [], _ => by simp [Flat]
  | .ro sz (_ :: _), h => by simp [roQ] at h
  | .rp _, h => by simp [roQ] at h
  | .fr _ _ _, h => by simp [roQ] at h
  | .agg cs, h | .tup cs, h | .fn _ cs, h => by simp only [roQ, Flat] at h ⊢; exact roQL_flat cs h
  | .iface _ x, h => by simp only [roQ, Flat] at h ⊢; exact roQ_flat x h
  | .j, _ | .u, _ | .int _ _, _ | .bool _, _ | .str _, _ | .nils, _ | .nili, _ | .own _ _ _, _ | .ptr _ _ _, _ | .bptr _ _, _ | .map _, _ => by simp [Flat]
theorem roQL_flat : ∀ (xs : List AV), roQL xs = some false → FlatL xs
  | [], _ => by simp [FlatL]
  | x :: xs, h => by
    simp only [roQL] at h
    split at h
    · cases h
    · simp only [FlatL]; exact ⟨roQ_flat x ‹_›, roQL_flat xs h⟩
    · split at h
      · cases h
      · cases h
end
theorem eff_more (h : Wd gl B S H w) (X : Nat → Prop) (hX : ∀ b, X b → b < w.heap.size ∧ ∀ p s, H.at p = some (some s) → H.β p ≠ b) (hB : ∀ b, X b → B.w0.heap.size ≤ b) : Eff gl B S H w (fun b => S b ∨ X b) H w [] := by
  have L : Later S H w (fun b => S b ∨ X b) H w := ⟨fun b hb _ => ⟨.inl hb, rfl⟩, Nat.le_refl _, fun p hp => ⟨hp, fun s hs => ⟨hs, rfl, rfl⟩⟩⟩
  refine ⟨rfl, ⟨⟨?_, ?_, ?_, ?_, fun p q s s' hp hq he hn => h.ok.inj p q s s' hp hq he fun hs => hn (.inl hs), ?_, fun p s hp hns => h.ok.mine p s hp fun h => hns (.inl h)⟩, h.kept, h.gl.later L, fun b hb => hb.elim (h.bs b) fun hx => .inr (.inl (hB b hx)), fun b hb => .inl (h.sup b hb)⟩, L⟩
  · rintro b (hb | hb)
    · exact h.ok.sb b hb
    · exact (hX b hb).1
  · intro p fz e sz es ho
    obtain ⟨h1, h2⟩ := h.ok.row p _ _ _ _ ho
    refine ⟨h1.later L.zero rfl, ?_⟩
    rw [← h2]
    exact ⟨fun hh => hh.resolve_right fun hx => (hX _ hx).2 p _ (at_row ho) rfl, .inl⟩
  · intro p t cs ho
    obtain ⟨vs, h1, h2, h3, h4⟩ := h.ok.box p t cs ho
    exact ⟨vs, h1, h2, RepL.later L cs vs h3, fun hh => hh.elim h4 fun hx => (hX _ hx).2 p _ (at_box ho) rfl⟩
  · intro p l ho
    obtain ⟨es, c, h1, h2, h3⟩ := h.ok.kv p l ho
    exact ⟨es, c, h1, RepKV.later L l _ h2, fun hh => hh.elim h3 fun hx => (hX _ hx).2 p _ (at_kv ho) rfl⟩
  · intro p x k ho
    obtain ⟨h1, h2⟩ := h.ok.it p x k ho
    exact ⟨h1, fun hh => hh.elim h2 fun hx => (hX _ hx).2 p _ (at_iter ho) rfl⟩
def Fresh (B : Base) (S : Nat → Prop) (H : Hp) (F : List (Nat × Nat)) : Prop := (F.map (·.1)).Nodup ∧ ∀ q ∈ F, ¬ S q.1 ∧ (∀ p s, H.at p = some (some s) → H.β p ≠ q.1) ∧ B.w0.heap.size ≤ q.1
mutual
theorem absorb_pos : ∀ (x : AV) (n q : Nat) (ob : Ob), (q, ob) ∈ (absorb n x).2 → n ≤ q ∧ q < n + (absorb n x).2.length
  | .fr e sz es, n, q, ob, h => by simp [absorb] at h ⊢; omega
  | .agg cs, n, q, ob, h => by simp only [absorb] at h ⊢; exact absorbL_pos cs n q ob h
  | .tup cs, n, q, ob, h => by simp only [absorb] at h ⊢; exact absorbL_pos cs n q ob h
  | .j, n, q, ob, h | .u, n, q, ob, h | .int _ _, n, q, ob, h | .bool _, n, q, ob, h | .str _, n, q, ob, h | .nils, n, q, ob, h | .nili, n, q, ob, h
  | .own _ _ _, n, q, ob, h | .ptr _ _ _, n, q, ob, h | .bptr _ _, n, q, ob, h | .map _, n, q, ob, h | .rp _, n, q, ob, h | .ro _ _, n, q, ob, h | .fn _ _, n, q, ob, h | .iface _ _, n, q, ob, h => by simp [absorb] at h
theorem absorbL_pos : ∀ (xs : List AV) (n q : Nat) (ob : Ob), (q, ob) ∈ (absorbL n xs).2 → n ≤ q ∧ q < n + (absorbL n xs).2.length
  | [], n, q, ob, h => by simp [absorbL] at h
  | x :: xs, n, q, ob, h => by
    simp only [absorbL, List.mem_append, List.length_append] at h ⊢
    rcases h with h | h
    · have := absorb_pos x n q ob h; omega
    · have := absorbL_pos xs _ q ob h; omega
end
structure Abs (gl : Gl) (B : Base) (S : Nat → Prop) (H : Hp) (w : World) (H' : Hp) (d : List (Nat × Ob)) (F : List (Nat × Nat)) : Prop where
  eff : Eff gl B S H w S H' w d
  old : ∀ q, (∀ ob, (q, ob) ∉ d) → getOb H'.h q = getOb H.h q
  β : ∀ p s, H'.at p = some (some s) → (H.at p = some (some s) ∧ H'.β p = H.β p) ∨ ∃ q ∈ F, H'.β p = q.1
theorem absorb_row (h : Wd gl B S H w) {n e sz : Nat} {es : List (List AV)} {b cap : Nat} (hrow : RowAt S w b cap e sz es) (hF : Fresh B S H [(b, cap)]) (hd : getOb H.h n = .dead) :
    Abs gl B S H w (H.put n (.row false e sz es) b cap) [(n, .row false e sz es)] [(b, cap)] ∧ RepV S (H.put n (.row false e sz es) b cap) w (.own n 0 es.length) (.slice (some ⟨b, 0, none⟩) es.length cap) := by
  obtain ⟨h1, h2, h3⟩ := hF.2 (b, cap) (by simp)
  obtain ⟨cur, vss, k1, k2, k3, k4, k5, k6, k7, k8⟩ := hrow
  refine ⟨⟨eff_new h hd h1 h2 (.inl h3) ⟨rfl, cur, vss, k1, k2, k3, k4, k5, k6, k7, k8⟩, fun q hq => ?_, fun p s hp => ?_⟩, ?_⟩
  · have : q ≠ n := fun e => hq _ (by rw [e]; exact List.mem_singleton.2 rfl)
    simp [Hp.put, getOb_set, this]
  · by_cases hpn : p = n
    · right; subst hpn; exact ⟨(b, cap), by simp, put_at.2.1⟩
    · left
      simp only [Hp.at, Hp.put, getOb_set, hpn, if_false] at hp ⊢
      exact ⟨hp, trivial⟩
  · simp only [RepV]
    refine ⟨rfl, by rw [put_at.1]; simp [Ob.sz], fun s hs => ?_⟩
    rw [put_at.1] at hs
    simp only [Ob.sz, Option.some.injEq] at hs
    subst hs
    rw [put_at.2.1, put_at.2.2]
    simp
mutual
theorem absorb_ok {S : Nat → Prop} {w : World} {b0 : Nat} : ∀ (x : AV) (n : Nat) (H : Hp) (v : Value) (F : List (Nat × Nat)), Wd gl B S H w → RepF S b0 w x v F → Fresh B S H F → (∀ q ob, (q, ob) ∈ (absorb n x).2 → getOb H.h q = .dead) →
    ∃ H', Abs gl B S H w H' (absorb n x).2 F ∧ RepV S H' w (absorb n x).1 v
  | .fr e sz es, n, H, v, F, h, hr, hF, hd => by
    simp only [RepF] at hr
    obtain ⟨b, cap, rfl, rfl, _, hrow⟩ := hr
    exact ⟨_, absorb_row h hrow hF (hd n _ (by simp only [absorb]; exact List.mem_singleton.2 rfl))⟩
  | .agg cs, n, H, v, F, h, hr, hF, hd => by
    simp only [RepF] at hr
    obtain ⟨vs, rfl, h1, hl⟩ := hr
    obtain ⟨H', k1, k2⟩ := absorbL_ok cs n H vs F h hl hF hd
    exact ⟨H', k1, by simp only [absorb, RepV]; exact ⟨vs, rfl, h1, k2⟩⟩
  | .tup cs, n, H, v, F, h, hr, hF, hd => by
    simp only [RepF] at hr
    obtain ⟨vs, rfl, hl⟩ := hr
    obtain ⟨H', k1, k2⟩ := absorbL_ok cs n H vs F h hl hF hd
    exact ⟨H', k1, by simp only [absorb, RepV]; exact ⟨vs, rfl, k2⟩⟩
  | .j, n, H, v, F, h, hr, hF, hd | .u, n, H, v, F, h, hr, hF, hd | .int _ _, n, H, v, F, h, hr, hF, hd | .bool _, n, H, v, F, h, hr, hF, hd | .str _, n, H, v, F, h, hr, hF, hd | .nils, n, H, v, F, h, hr, hF, hd
  | .nili, n, H, v, F, h, hr, hF, hd | .own _ _ _, n, H, v, F, h, hr, hF, hd | .ptr _ _ _, n, H, v, F, h, hr, hF, hd | .bptr _ _, n, H, v, F, h, hr, hF, hd | .map _, n, H, v, F, h, hr, hF, hd | .rp _, n, H, v, F, h, hr, hF, hd
  | .ro _ _, n, H, v, F, h, hr, hF, hd | .fn _ _, n, H, v, F, h, hr, hF, hd | .iface _ _, n, H, v, F, h, hr, hF, hd => by
    simp only [RepF] at hr
    exact ⟨H, ⟨Eff.refl h, fun _ _ => rfl, fun p s hp => .inl ⟨hp, rfl⟩⟩, RepV.plain hr.2⟩
theorem absorbL_ok {S : Nat → Prop} {w : World} {b0 : Nat} : ∀ (xs : List AV) (n : Nat) (H : Hp) (vs : List Value) (F : List (Nat × Nat)), Wd gl B S H w → RepFL S b0 w xs vs F → Fresh B S H F → (∀ q ob, (q, ob) ∈ (absorbL n xs).2 → getOb H.h q = .dead) →
    ∃ H', Abs gl B S H w H' (absorbL n xs).2 F ∧ RepL S H' w (absorbL n xs).1 vs
  | [], n, H, vs, F, h, hr, hF, hd => by
    simp only [RepFL] at hr
    obtain ⟨rfl, rfl⟩ := hr
    exact ⟨H, ⟨Eff.refl h, fun _ _ => rfl, fun p s hp => .inl ⟨hp, rfl⟩⟩, by simp [absorbL, RepL]⟩
  | x :: xs, n, H, vs, F, h, hr, hF, hd => by
    simp only [RepFL] at hr
    obtain ⟨v, r, F1, F2, rfl, rfl, hx, hxs⟩ := hr
    simp only [absorbL, List.mem_append] at hd ⊢
    obtain ⟨hn, hall⟩ := hF
    rw [List.map_append, List.nodup_append] at hn
    obtain ⟨H1, k1, k2⟩ := absorb_ok x n H v F1 h hx ⟨hn.1, fun q hq => hall q (List.mem_append_left _ hq)⟩ (fun q ob hq => hd q ob (.inl hq))
    obtain ⟨H2, l1, l2⟩ := absorbL_ok xs (n + (absorb n x).2.length) H1 r F2 k1.eff.wd hxs ⟨hn.2.1, fun q hq => by
      obtain ⟨m1, m2, m3⟩ := hall q (List.mem_append_right _ hq)
      refine ⟨m1, fun p s hp e => ?_, m3⟩
      rcases k1.β p s hp with ⟨e1, e2⟩ | ⟨q', hq', e1⟩
      · exact m2 p s e1 (e2 ▸ e)
      · exact hn.2.2 _ (List.mem_map_of_mem hq') _ (List.mem_map_of_mem hq) (e1.symm.trans e)⟩ (fun q ob hq => by
      rw [k1.old q (fun ob' hob' => by
        have := absorb_pos x n q ob' hob'
        have := absorbL_pos xs _ q ob hq
        omega)]
      exact hd q ob (.inr hq))
    refine ⟨H2, ⟨k1.eff.trans l1.eff, fun q hq => ?_, fun p s hp => ?_⟩, ?_⟩
    · rw [l1.old q (fun ob hob => hq ob (List.mem_append_right _ hob)), k1.old q (fun ob hob => hq ob (List.mem_append_left _ hob))]
    · rcases l1.β p s hp with ⟨e1, e2⟩ | ⟨q, hq, e1⟩
      · rcases k1.β p s e1 with ⟨e3, e4⟩ | ⟨q, hq, e3⟩
        · exact .inl ⟨e3, e2.trans e4⟩
        · exact .inr ⟨q, List.mem_append_left _ hq, e2.trans e3⟩
      · exact .inr ⟨q, List.mem_append_right _ hq, e1⟩
    · simp only [RepL]
      exact ⟨v, r, rfl, RepV.later l1.eff.later _ _ k2, l2⟩
end
end Go.V
namespace Go.V
open Go.RowKit
variable {P : Program} {gl : Gl} {T : Tab} {B : Base} {S : Nat → Prop} {H : Hp} {a : Act} {w : World}
theorem renP_spec : ∀ {ps : List Nat} {i p j : Nat}, renP ps i p = some j → i ≤ j ∧ ps[j - i]? = some p
  | [], i, p, j, h => by simp [renP] at h
  | q :: ps, i, p, j, h => by
    simp only [renP] at h
    split at h
    · rename_i hb
      simp only [Option.some.injEq] at h
      subst h
      exact ⟨Nat.le_refl _, by simp [Nat.eq_of_beq_eq_true hb]⟩
    · obtain ⟨h1, h2⟩ := renP_spec h
      refine ⟨by omega, ?_⟩
      rw [show j - i = (j - (i + 1)) + 1 by omega]
      simpa using h2
theorem getOb_keepH (h : List Ob) (ps : List Nat) : ∀ (qs : List Nat) (i : Nat), getOb (keepH h ps qs) i = match qs[i]? with | some q => renOb ps (getOb h q) | none => .dead
  | [], i => by simp [keepH, getOb]
  | q :: qs, 0 => by simp [keepH, getOb]
  | q :: qs, i + 1 => by simp only [keepH, getOb, List.getElem?_cons_succ]; exact getOb_keepH h ps qs i
def Hp.keep (H : Hp) (ps : List Nat) : Hp := ⟨keepH H.h ps ps, fun i => H.β (ps.getD i 0), fun i => H.κ (ps.getD i 0)⟩
theorem renOb_sz (ps : List Nat) (o : Ob) : (renOb ps o).sz = o.sz := by cases o <;> rfl
theorem keep_at {ps : List Nat} {i q : Nat} (h : ps[i]? = some q) : (H.keep ps).at i = H.at q ∧ (H.keep ps).β i = H.β q ∧ (H.keep ps).κ i = H.κ q := by
  refine ⟨?_, ?_, ?_⟩
  · unfold Hp.at Hp.keep
    rw [getOb_keepH, h]
    exact renOb_sz _ _
  · simp [Hp.keep, h]
  · simp [Hp.keep, h]
mutual
theorem ren_rep {S : Nat → Prop} {H : Hp} {w : World} (ps : List Nat) : ∀ (x : AV) (v : Value), RepV S H w x v → RepV S (H.keep ps) w (ren ps x) v
  | .own q off len, v, h => by
    simp only [ren]
    split
    · rename_i i hi
      obtain ⟨k1, k2, k3⟩ := keep_at (H := H) (renP_spec hi).2
      simp only [Nat.sub_zero] at k1 k2 k3
      simp only [RepV] at h ⊢
      rw [k1, k2, k3]; exact h
    · simp [RepV]
  | .ptr q i' c, v, h => by
    simp only [ren]
    split
    · rename_i i hi
      obtain ⟨k1, k2, k3⟩ := keep_at (H := H) (renP_spec hi).2
      simp only [Nat.sub_zero] at k1 k2 k3
      simp only [RepV] at h ⊢
      rw [k1, k2]; exact h
    · simp [RepV]
  | .bptr q c, v, h => by
    simp only [ren]
    split
    · rename_i i hi
      obtain ⟨k1, k2, k3⟩ := keep_at (H := H) (renP_spec hi).2
      simp only [Nat.sub_zero] at k1 k2 k3
      simp only [RepV] at h ⊢
      rw [k1, k2]; exact h
    · simp [RepV]
  | .map q, v, h => by
    simp only [ren]
    split
    · rename_i i hi
      obtain ⟨k1, k2, k3⟩ := keep_at (H := H) (renP_spec hi).2
      simp only [Nat.sub_zero] at k1 k2 k3
      simp only [RepV] at h ⊢
      rw [k1, k2]; exact h
    · simp [RepV]
  | .agg cs, v, h => by
    simp only [RepV, ren] at h ⊢
    obtain ⟨vs, e, h1, h2⟩ := h
    exact ⟨vs, e, h1, ren_repL ps cs vs h2⟩
  | .tup cs, v, h | .fn _ cs, v, h => by
    simp only [RepV, ren] at h ⊢
    obtain ⟨vs, e, h2⟩ := h
    exact ⟨vs, e, ren_repL ps cs vs h2⟩
  | .iface t x, v, h => by
    simp only [RepV, ren] at h ⊢
    obtain ⟨u, e, h2⟩ := h
    exact ⟨u, e, ren_rep ps x u h2⟩
  | .j, v, h | .u, v, h | .int _ _, v, h | .bool _, v, h | .str _, v, h | .nils, v, h | .nili, v, h => by simpa [RepV, ren] using h
  | .fr _ _ _, v, h => by simp [RepV] at h
  | .ro _ _, v, h | .rp _, v, h => by simp only [RepV, ren] at h ⊢; exact h
theorem ren_repL {S : Nat → Prop} {H : Hp} {w : World} (ps : List Nat) : ∀ (xs : List AV) (vs : List Value), RepL S H w xs vs → RepL S (H.keep ps) w (renL ps xs) vs
  | [], vs, h => by simpa [RepL, renL] using h
  | x :: xs, vs, h => by
    simp only [RepL, renL] at h ⊢
    obtain ⟨v, r, e, h1, h2⟩ := h
    exact ⟨v, r, e, ren_rep ps x v h1, ren_repL ps xs r h2⟩
end
theorem ren_repKV {S : Nat → Prop} {H : Hp} {w : World} (ps : List Nat) : ∀ (l : List (ByteArray × AV)) (es : List MapEntry), RepKV S H w l es → RepKV S (H.keep ps) w (l.map fun kx => (kx.1, ren ps kx.2)) es
  | [], es, h => by simpa [RepKV] using h
  | (k, x) :: l, es, h => by
    simp only [RepKV, List.map_cons] at h ⊢
    obtain ⟨v, b, es', e, h1, h2⟩ := h
    exact ⟨v, b, es', e, ren_rep ps x v h1, ren_repKV ps l es' h2⟩
theorem nodup_ok : ∀ {ps : List Nat}, nodup ps = true → ∀ {i j q : Nat}, ps[i]? = some q → ps[j]? = some q → i = j
  | [], _, i, j, q, hi, _ => by simp at hi
  | p :: ps, h, i, j, q, hi, hj => by
    simp only [nodup, Bool.and_eq_true, Bool.not_eq_true'] at h
    have hno : ∀ k : Nat, ps[k]? ≠ some p := fun k hk => by
      have := List.any_eq_false.1 h.1 p (List.mem_of_getElem? hk)
      simp at this
    cases i with
    | zero =>
      cases j with
      | zero => rfl
      | succ j => simp at hi hj; subst hi; exact absurd hj (hno j)
    | succ i =>
      cases j with
      | zero => simp at hi hj; subst hj; exact absurd hi (hno i)
      | succ j => simp at hi hj; rw [nodup_ok h.2 hi hj]
theorem ok_keep (hok : HeapOK S B H w) {ps : List Nat} (hp : nodup ps = true) : HeapOK S B (H.keep ps) w := by
  have hat : ∀ i s, (H.keep ps).at i = some (some s) → ∃ q, ps[i]? = some q ∧ H.at q = some (some s) := fun i s hs => by
    cases hq : ps[i]? with
    | none =>
      unfold Hp.at Hp.keep at hs
      rw [getOb_keepH, hq] at hs
      cases hs
    | some q => exact ⟨q, rfl, by rw [← (keep_at (H := H) hq).1]; exact hs⟩
  have hob : ∀ i o, getOb (H.keep ps).h i = o → o ≠ .dead → ∃ q, ps[i]? = some q ∧ renOb ps (getOb H.h q) = o := fun i o ho hne => by
    unfold Hp.keep at ho
    rw [getOb_keepH] at ho
    cases hq : ps[i]? with
    | none => rw [hq] at ho; exact absurd ho.symm hne
    | some q => rw [hq] at ho; exact ⟨q, rfl, ho⟩
  refine ⟨hok.sb, ?_, ?_, ?_, ?_, ?_, ?_⟩
  · intro i fz e sz es ho
    obtain ⟨q, hq, hoq⟩ := hob i _ ho (by simp)
    obtain ⟨k1, k2, k3⟩ := keep_at (H := H) hq
    cases hg : getOb H.h q <;> rw [hg] at hoq <;> simp [renOb] at hoq
    obtain ⟨rfl, rfl, rfl, rfl⟩ := hoq
    rw [k2, k3]
    exact hok.row q _ _ _ _ hg
  · intro i t cs ho
    obtain ⟨q, hq, hoq⟩ := hob i _ ho (by simp)
    obtain ⟨k1, k2, k3⟩ := keep_at (H := H) hq
    cases hg : getOb H.h q <;> rw [hg] at hoq <;> simp [renOb] at hoq
    obtain ⟨rfl, rfl⟩ := hoq
    obtain ⟨vs, h1, h2, h3, h4⟩ := hok.box q _ _ hg
    rw [k2]
    exact ⟨vs, h1, h2, ren_repL ps _ vs h3, h4⟩
  · intro i l ho
    obtain ⟨q, hq, hoq⟩ := hob i _ ho (by simp)
    obtain ⟨k1, k2, k3⟩ := keep_at (H := H) hq
    cases hg : getOb H.h q <;> rw [hg] at hoq <;> simp [renOb] at hoq
    subst hoq
    obtain ⟨es, c, h1, h2, h3⟩ := hok.kv q _ hg
    rw [k2]
    exact ⟨es, c, h1, ren_repKV ps _ _ h2, h3⟩
  · intro i j s s' hi hj he hnS
    obtain ⟨q, hq, hq'⟩ := hat i s hi
    obtain ⟨r, hr', hr''⟩ := hat j s' hj
    rw [(keep_at (H := H) hq).2.1, (keep_at (H := H) hr').2.1] at he
    rw [(keep_at (H := H) hq).2.1] at hnS
    have := hok.inj q r s s' hq' hr'' he hnS
    subst this
    exact nodup_ok hp hq hr'
  · intro i x k ho
    obtain ⟨q, hq, hoq⟩ := hob i _ ho (by simp)
    obtain ⟨k1, k2, k3⟩ := keep_at (H := H) hq
    cases hg : getOb H.h q <;> rw [hg] at hoq <;> simp [renOb] at hoq
    obtain ⟨rfl, rfl⟩ := hoq
    rw [k2]
    exact hok.it q _ _ hg
  · intro i s hi hns
    obtain ⟨q, hq, hq'⟩ := hat i s hi
    rw [(keep_at (H := H) hq).2.1] at hns ⊢
    exact hok.mine q s hq' hns
def Tr (ps : List Nat) (n : Nat) (H' H'' : Hp) : Prop := ∀ i, H'.at i ≠ none → H''.at (trP ps n i) = H'.at i ∧ H''.β (trP ps n i) = H'.β i ∧ H''.κ (trP ps n i) = H'.κ i
mutual
theorem tr_rep {S : Nat → Prop} {H' H'' : Hp} {w : World} {ps : List Nat} {n : Nat} (ht : Tr ps n H' H'') : ∀ (x : AV) (v : Value), RepV S H' w x v → RepV S H'' w (tr ps n x) v
  | .own q off len, v, h => by
    simp only [RepV, tr] at h ⊢
    obtain ⟨k1, k2, k3⟩ := ht q h.2.1
    rw [k1, k2, k3]; exact h
  | .ptr q i' c, v, h => by
    simp only [RepV, tr] at h ⊢
    obtain ⟨k1, k2, k3⟩ := ht q h.2.1
    rw [k1, k2]; exact h
  | .bptr q c, v, h | .map q, v, h => by
    simp only [RepV, tr] at h ⊢
    obtain ⟨k1, k2, k3⟩ := ht q h.2.1
    rw [k1, k2]; exact h
  | .agg cs, v, h => by
    simp only [RepV, tr] at h ⊢
    obtain ⟨vs, e, h1, h2⟩ := h
    exact ⟨vs, e, h1, tr_repL ht cs vs h2⟩
  | .tup cs, v, h | .fn _ cs, v, h => by
    simp only [RepV, tr] at h ⊢
    obtain ⟨vs, e, h2⟩ := h
    exact ⟨vs, e, tr_repL ht cs vs h2⟩
  | .iface t x, v, h => by
    simp only [RepV, tr] at h ⊢
    obtain ⟨u, e, h2⟩ := h
    exact ⟨u, e, tr_rep ht x u h2⟩
  | .j, v, h | .u, v, h | .int _ _, v, h | .bool _, v, h | .str _, v, h | .nils, v, h | .nili, v, h => by simpa [RepV, tr] using h
  | .fr _ _ _, v, h => by simp [RepV] at h
  | .ro _ _, v, h | .rp _, v, h => by simp only [RepV, tr] at h ⊢; exact h
theorem tr_repL {S : Nat → Prop} {H' H'' : Hp} {w : World} {ps : List Nat} {n : Nat} (ht : Tr ps n H' H'') : ∀ (xs : List AV) (vs : List Value), RepL S H' w xs vs → RepL S H'' w (trL ps n xs) vs
  | [], vs, h => by simpa [RepL, trL] using h
  | x :: xs, vs, h => by
    simp only [RepL, trL] at h ⊢
    obtain ⟨v, r, e, h1, h2⟩ := h
    exact ⟨v, r, e, tr_rep ht x v h1, tr_repL ht xs r h2⟩
end
theorem tr_repKV {S : Nat → Prop} {H' H'' : Hp} {w : World} {ps : List Nat} {n : Nat} (ht : Tr ps n H' H'') : ∀ (l : List (ByteArray × AV)) (es : List MapEntry), RepKV S H' w l es → RepKV S H'' w (l.map fun kx => (kx.1, tr ps n kx.2)) es
  | [], es, h => by simpa [RepKV] using h
  | (k, x) :: l, es, h => by
    simp only [RepKV, List.map_cons] at h ⊢
    obtain ⟨v, b, es', e, h1, h2⟩ := h
    exact ⟨v, b, es', e, tr_rep ht x v h1, tr_repKV ht l es' h2⟩
theorem trOb_sz (ps : List Nat) (n : Nat) (o : Ob) : (trOb ps n o).sz = o.sz := by cases o <;> rfl
end Go.V
namespace Go.V
open Go.RowKit
variable {P : Program} {gl : Gl} {T : Tab} {B : Base} {S : Nat → Prop} {H : Hp} {a : Act} {w : World}
theorem trP_eq (n : Nat) : ∀ (ps : List Nat) (i : Nat), trP ps n i = (ps[i]?).getD (n + (i - ps.length))
  | [], i => by simp [trP]
  | p :: ps, 0 => by simp [trP]
  | p :: ps, i + 1 => by simp only [trP, trP_eq n ps i, List.getElem?_cons_succ, List.length_cons]; congr 2; omega
theorem trP_inj {ps : List Nat} {n : Nat} (hnd : nodup ps = true) (hlt : ∀ p ∈ ps, p < n) {i j : Nat} (h : trP ps n i = trP ps n j) : i = j := by
  rw [trP_eq, trP_eq] at h
  cases hi : ps[i]? with
  | some p =>
    have hpn := hlt p (List.mem_of_getElem? hi)
    cases hj : ps[j]? with
    | some q =>
      rw [hi, hj] at h
      simp only [Option.getD_some] at h
      subst h
      exact nodup_ok hnd hi hj
    | none => rw [hi, hj] at h; simp at h; omega
  | none =>
    have h1 := List.getElem?_eq_none_iff.1 hi
    cases hj : ps[j]? with
    | some q =>
      have hqn := hlt q (List.mem_of_getElem? hj)
      rw [hi, hj] at h; simp at h; omega
    | none =>
      have h2 := List.getElem?_eq_none_iff.1 hj
      rw [hi, hj] at h; simp at h; omega
theorem getOb_trD_no {ps : List Nat} {n p : Nat} : ∀ (l : List Ob) (k : Nat) (h : List Ob), (∀ i, i < l.length → trP ps n (k + i) ≠ p) → getOb (setAll h (trD ps n k l)) p = getOb h p
  | [], k, h, _ => rfl
  | o :: l, k, h, hn => by
    simp only [trD, setAll]
    rw [getOb_trD_no l (k + 1) _ fun i hi => by
      have := hn (i + 1) (by simpa using hi)
      rwa [show k + (i + 1) = k + 1 + i by omega] at this]
    rw [getOb_set, if_neg fun e => hn 0 (by simp) (by simpa using e.symm)]
theorem getOb_trD {ps : List Nat} {n : Nat} (hinj : ∀ i j, trP ps n i = trP ps n j → i = j) : ∀ (l : List Ob) (k i : Nat) (h : List Ob), i < l.length → getOb (setAll h (trD ps n k l)) (trP ps n (k + i)) = trOb ps n (getOb l i)
  | [], k, i, h, hi => by simp at hi
  | o :: l, k, 0, h, hi => by
    simp only [trD, setAll]
    rw [getOb_trD_no l (k + 1) _ fun i hi e => by have := hinj _ _ e; omega, getOb_set]
    simp [getOb]
  | o :: l, k, i + 1, h, hi => by
    simp only [trD, setAll]
    rw [show k + (i + 1) = k + 1 + i by omega, getOb_trD hinj l (k + 1) i _ (by simpa using hi)]
    rfl
theorem mem_trD {ps : List Nat} {n : Nat} : ∀ (l : List Ob) (k i : Nat), i < l.length → ∃ ob, (trP ps n (k + i), ob) ∈ trD ps n k l
  | [], k, i, hi => by simp at hi
  | o :: l, k, 0, hi => ⟨_, by simp only [trD]; exact List.mem_cons_self⟩
  | o :: l, k, i + 1, hi => by
    obtain ⟨ob, h⟩ := mem_trD l (k + 1) i (by simpa using hi)
    exact ⟨ob, by simp only [trD]; rw [show k + (i + 1) = k + 1 + i by omega]; exact List.mem_cons_of_mem _ h⟩
theorem blocksOf_keep {ps : List Nat} {b : Nat} (h : blocksOf S (H.keep ps) b) : ∃ p ∈ ps, ∃ s, H.at p = some (some s) ∧ b = H.β p ∧ ¬ S b := by
  obtain ⟨i, s, h1, h2, h3⟩ := h
  cases hq : ps[i]? with
  | none =>
    unfold Hp.at Hp.keep at h1
    rw [getOb_keepH, hq] at h1
    cases h1
  | some q =>
    obtain ⟨k1, k2, _⟩ := keep_at (H := H) hq
    exact ⟨q, List.mem_of_getElem? hq, s, by rw [← k1]; exact h1, by rw [← k2]; exact h2, h3⟩
theorem keepH_length (h : List Ob) (ps : List Nat) : ∀ qs : List Nat, (keepH h ps qs).length = qs.length
  | [] => rfl
  | q :: qs => by simp [keepH, keepH_length h ps qs]
theorem keepH_map (h : List Ob) (ps : List Nat) : ∀ qs : List Nat, keepH h ps qs = qs.map fun p => renOb ps (getOb h p)
  | [] => rfl
  | q :: qs => by simp [keepH, keepH_map h ps qs]
open Classical in
theorem eff_bulk (h : Wd gl B S H w) {ps : List Nat} {n : Nat} (hnd : nodup ps = true) (hlt : ∀ p ∈ ps, p < n) {S' : Nat → Prop} {H' : Hp} {w' : World}
    (hok : HeapOK S' (baseH S (H.keep ps) w) H' w') (hk : Kept (baseH S (H.keep ps) w) w') (h1 : ∀ b, S b → S' b) (h2 : ∀ b, S' b → S b ∨ w.heap.size ≤ b ∨ blocksOf S (H.keep ps) b)
    (hp : Pin (baseH S (H.keep ps) w) H') (hfree : ∀ q ob, (q, ob) ∈ trD ps n 0 H'.h → n ≤ q → getOb H.h q = .dead) :
    ∃ H'', Eff gl B S H w S' H'' w' (trD ps n 0 H'.h) ∧ Tr ps n H' H'' := by
  have hinj : ∀ i j, trP ps n i = trP ps n j → i = j := fun i j => trP_inj hnd hlt
  have hpin : ∀ i p, ps[i]? = some p → H'.at i ≠ none ∧ ∀ s, H'.at i = some (some s) → H'.β i = H.β p ∧ H'.κ i = H.κ p ∧ H.at p = some (some s) := fun i p hi => by
    obtain ⟨k1, k2, k3⟩ := keep_at (H := H) hi
    have hl : i < ps.length := (List.getElem?_eq_some_iff.1 hi).1
    have := hp i (H.β p, H.κ p, H.at p) (by
      simp only [baseH, List.getElem?_map]
      rw [List.getElem?_range (by simpa [Hp.keep, keepH_length] using hl)]
      simp [k1, k2, k3])
    exact this
  let H'' : Hp := ⟨setAll H.h (trD ps n 0 H'.h), fun p => if e : ∃ i, i < H'.h.length ∧ trP ps n i = p then H'.β e.choose else H.β p, fun p => if e : ∃ i, i < H'.h.length ∧ trP ps n i = p then H'.κ e.choose else H.κ p⟩
  have hβ : ∀ i, i < H'.h.length → H''.β (trP ps n i) = H'.β i ∧ H''.κ (trP ps n i) = H'.κ i ∧ getOb H''.h (trP ps n i) = trOb ps n (getOb H'.h i) := fun i hi => by
    have e : ∃ j, j < H'.h.length ∧ trP ps n j = trP ps n i := ⟨i, hi, rfl⟩
    have hc := hinj _ _ e.choose_spec.2
    refine ⟨?_, ?_, ?_⟩
    · show (if e : _ then _ else _) = _
      rw [dif_pos e, hc]
    · show (if e : _ then _ else _) = _
      rw [dif_pos e, hc]
    · have := getOb_trD hinj H'.h 0 i H.h hi
      rw [Nat.zero_add] at this; exact this
  have hno : ∀ p, (¬ ∃ i, i < H'.h.length ∧ trP ps n i = p) → H''.β p = H.β p ∧ H''.κ p = H.κ p ∧ getOb H''.h p = getOb H.h p := fun p hp => by
    refine ⟨?_, ?_, ?_⟩
    · show (if e : _ then _ else _) = _
      rw [dif_neg hp]
    · show (if e : _ then _ else _) = _
      rw [dif_neg hp]
    · exact getOb_trD_no H'.h 0 H.h fun i hi e => hp ⟨i, hi, by rwa [Nat.zero_add] at e⟩
  have hlen : ∀ i, H'.at i ≠ none → i < H'.h.length := fun i hi => Classical.byContradiction fun hn => hi (by unfold Hp.at; rw [getOb_ge _ _ (Nat.not_lt.1 hn)]; rfl)
  have hTr : Tr ps n H' H'' := fun i hi => by
    obtain ⟨k1, k2, k3⟩ := hβ i (hlen i hi)
    exact ⟨by unfold Hp.at; rw [k3, trOb_sz], k1, k2⟩
  have hps : ∀ p ∈ ps, ∃ i, i < H'.h.length ∧ trP ps n i = p := fun p hp => by
    obtain ⟨i, hi⟩ := List.getElem?_of_mem hp
    exact ⟨i, hlen i (hpin i p hi).1, by rw [trP_eq, hi]; rfl⟩
  have hblk : ∀ b, b < w.heap.size → ¬ blocksOf S (H.keep ps) b → w'.heap[b]? = w.heap[b]? := fun b hb hn => hk.block b hb hn
  have L : Later S H w S' H'' w' := ⟨fun b hb hlt => ⟨h1 b hb, hblk b hlt fun ⟨_, _, _, _, hh⟩ => hh hb⟩, hk.size, fun p hpn => by
    by_cases e : ∃ i, i < H'.h.length ∧ trP ps n i = p
    · obtain ⟨i, hi, rfl⟩ := e
      obtain ⟨k1, k2, k3⟩ := hβ i hi
      cases hq : ps[i]? with
      | some q =>
        have eq : trP ps n i = q := by rw [trP_eq, hq]; rfl
        obtain ⟨l1, l2⟩ := hpin i q hq
        refine ⟨by rw [(hTr i l1).1]; exact l1, fun s hs => ?_⟩
        rw [(hTr i l1).1] at hs
        obtain ⟨m1, m2, m3⟩ := l2 s hs
        rw [k1, k2, m1, m2, eq]
        exact ⟨m3, rfl, rfl⟩
      | none =>
        have hge : n ≤ trP ps n i := by rw [trP_eq, hq]; simp
        obtain ⟨ob, hm⟩ := mem_trD (ps := ps) (n := n) H'.h 0 i hi
        rw [Nat.zero_add] at hm
        exact absurd (by unfold Hp.at; rw [hfree _ _ hm hge]; rfl) hpn
    · obtain ⟨k1, k2, k3⟩ := hno p e
      have : H''.at p = H.at p := by unfold Hp.at; rw [k3]
      rw [this, k1, k2]
      exact ⟨hpn, fun s hs => ⟨hs, rfl, rfl⟩⟩⟩
  have other : ∀ p s, (¬ ∃ i, i < H'.h.length ∧ trP ps n i = p) → H.at p = some (some s) → ¬ blocksOf S (H.keep ps) (H.β p) := fun p s hp hs hb => by
    obtain ⟨q, hq, s', g1, g2, g3⟩ := blocksOf_keep hb
    have := h.ok.inj p q _ _ hs g1 g2 g3
    subst this
    exact hp (hps p hq)
  have mineOf : ∀ b, blocksOf S (H.keep ps) b → B.w0.heap.size ≤ b ∨ B.M b := fun b hb => by
    obtain ⟨q, hq, s', g1, g2, g3⟩ := blocksOf_keep hb
    subst g2
    exact h.ok.mine q s' g1 g3
  have at_no : ∀ p, (¬ ∃ i, i < H'.h.length ∧ trP ps n i = p) → H''.at p = H.at p := fun p e => by unfold Hp.at; rw [(hno p e).2.2]
  have notS' : ∀ p s, (¬ ∃ i, i < H'.h.length ∧ trP ps n i = p) → H.at p = some (some s) → (S' (H.β p) ↔ S (H.β p)) := fun p s hp hs => by
    refine ⟨fun hh => ?_, h1 _⟩
    rcases h2 _ hh with hh | hh | hh
    · exact hh
    · exact absurd (live_lt h.ok hs) (Nat.not_lt.2 hh)
    · exact absurd hh (other p s hp hs)
  refine ⟨H'', ⟨rfl, ⟨⟨hok.sb, ?_, ?_, ?_, ?_, ?_, ?_⟩, ⟨hk.os.trans h.kept.os, hk.tape.trans h.kept.tape, hk.output.trans h.kept.output, Nat.le_trans h.kept.size hk.size, ?_⟩, h.gl.later L, ?_, fun b hb => h1 b (h.sup b hb)⟩, L⟩, hTr⟩
  · intro p fz e sz es ho
    by_cases hh : ∃ i, i < H'.h.length ∧ trP ps n i = p
    · obtain ⟨i, hi, rfl⟩ := hh
      obtain ⟨k1, k2, k3⟩ := hβ i hi
      rw [k3] at ho
      rw [k1, k2]
      cases hg : getOb H'.h i <;> rw [hg] at ho <;> simp [trOb] at ho
      obtain ⟨rfl, rfl, rfl, rfl⟩ := ho
      exact hok.row i _ _ _ _ hg
    · obtain ⟨k1, k2, k3⟩ := hno p hh
      rw [k3] at ho
      rw [k1, k2]
      obtain ⟨r1, r2⟩ := h.ok.row p _ _ _ _ ho
      refine ⟨r1.later L.zero (hblk _ (live_lt h.ok (at_row ho)) (other p _ hh (at_row ho))), ?_⟩
      rw [notS' p _ hh (at_row ho)]; exact r2
  · intro p t cs ho
    by_cases hh : ∃ i, i < H'.h.length ∧ trP ps n i = p
    · obtain ⟨i, hi, rfl⟩ := hh
      obtain ⟨k1, k2, k3⟩ := hβ i hi
      rw [k3] at ho
      rw [k1]
      cases hg : getOb H'.h i <;> rw [hg] at ho <;> simp [trOb] at ho
      obtain ⟨rfl, rfl⟩ := ho
      obtain ⟨vs, q1, q2, q3, q4⟩ := hok.box i _ _ hg
      exact ⟨vs, q1, q2, tr_repL hTr _ vs q3, q4⟩
    · obtain ⟨k1, k2, k3⟩ := hno p hh
      rw [k3] at ho
      rw [k1]
      obtain ⟨vs, q1, q2, q3, q4⟩ := h.ok.box p _ _ ho
      exact ⟨vs, (hblk _ (live_lt h.ok (at_box ho)) (other p _ hh (at_box ho))).trans q1, q2, RepL.later L _ vs q3, by rw [notS' p _ hh (at_box ho)]; exact q4⟩
  · intro p l ho
    by_cases hh : ∃ i, i < H'.h.length ∧ trP ps n i = p
    · obtain ⟨i, hi, rfl⟩ := hh
      obtain ⟨k1, k2, k3⟩ := hβ i hi
      rw [k3] at ho
      rw [k1]
      cases hg : getOb H'.h i <;> rw [hg] at ho <;> simp [trOb] at ho
      subst ho
      obtain ⟨es, c, q1, q2, q3⟩ := hok.kv i _ hg
      exact ⟨es, c, q1, tr_repKV hTr _ _ q2, q3⟩
    · obtain ⟨k1, k2, k3⟩ := hno p hh
      rw [k3] at ho
      rw [k1]
      obtain ⟨es, c, q1, q2, q3⟩ := h.ok.kv p _ ho
      exact ⟨es, c, (hblk _ (live_lt h.ok (at_kv ho)) (other p _ hh (at_kv ho))).trans q1, RepKV.later L _ _ q2, by rw [notS' p _ hh (at_kv ho)]; exact q3⟩
  · -- a block is one object's alone
    have key : ∀ p q s s', (¬ ∃ i, i < H'.h.length ∧ trP ps n i = p) → (∃ i, i < H'.h.length ∧ trP ps n i = q) → H''.at p = some (some s) → H''.at q = some (some s') → H''.β p = H''.β q → ¬ S' (H''.β p) → False := fun p q s s' hp hq hs hs' he hn => by
      obtain ⟨i, hi, rfl⟩ := hq
      rw [at_no p hp] at hs
      obtain ⟨k1, _, _⟩ := hβ i hi
      obtain ⟨l1, _, _⟩ := hno p hp
      rw [l1] at hn
      rw [k1, l1] at he
      have ha : H'.at i = some (some s') := by
        unfold Hp.at at hs' ⊢; rw [(hβ i hi).2.2, trOb_sz] at hs'; exact hs'
      rcases hok.mine i s' ha (by rw [← he]; exact hn) with hh | hh
      · rw [← he] at hh; exact absurd (live_lt h.ok hs) (Nat.not_lt.2 hh)
      · rw [← he] at hh; exact other p s hp hs hh
    intro p q s s' hs hs' he hn
    by_cases hp : ∃ i, i < H'.h.length ∧ trP ps n i = p <;> by_cases hq : ∃ i, i < H'.h.length ∧ trP ps n i = q
    · obtain ⟨i, hi, rfl⟩ := hp
      obtain ⟨j, hj, rfl⟩ := hq
      have ha : H'.at i = some (some s) := by unfold Hp.at at hs ⊢; rw [(hβ i hi).2.2, trOb_sz] at hs; exact hs
      have hb : H'.at j = some (some s') := by unfold Hp.at at hs' ⊢; rw [(hβ j hj).2.2, trOb_sz] at hs'; exact hs'
      rw [(hβ i hi).1] at he hn
      rw [(hβ j hj).1] at he
      rw [hok.inj i j _ _ ha hb he hn]
    · exact (key q p s' s hq hp hs' hs he.symm (by rw [← he]; exact hn)).elim
    · exact (key p q s s' hp hq hs hs' he hn).elim
    · rw [at_no p hp] at hs
      rw [at_no q hq] at hs'
      rw [(hno p hp).1] at he hn
      rw [(hno q hq).1] at he
      exact h.ok.inj p q _ _ hs hs' he fun hh => hn (h1 _ hh)
  · intro p x k ho
    by_cases hh : ∃ i, i < H'.h.length ∧ trP ps n i = p
    · obtain ⟨i, hi, rfl⟩ := hh
      obtain ⟨k1, k2, k3⟩ := hβ i hi
      rw [k3] at ho
      rw [k1]
      cases hg : getOb H'.h i <;> rw [hg] at ho <;> simp [trOb] at ho
      obtain ⟨rfl, rfl⟩ := ho
      exact hok.it i _ _ hg
    · obtain ⟨k1, k2, k3⟩ := hno p hh
      rw [k3] at ho
      rw [k1]
      obtain ⟨q1, q2⟩ := h.ok.it p _ _ ho
      exact ⟨(hblk _ (live_lt h.ok (at_iter ho)) (other p _ hh (at_iter ho))).trans q1, by rw [notS' p _ hh (at_iter ho)]; exact q2⟩
  · intro p s hs hn
    by_cases hp : ∃ i, i < H'.h.length ∧ trP ps n i = p
    · obtain ⟨i, hi, rfl⟩ := hp
      have ha : H'.at i = some (some s) := by unfold Hp.at at hs ⊢; rw [(hβ i hi).2.2, trOb_sz] at hs; exact hs
      rw [(hβ i hi).1] at hn ⊢
      rcases hok.mine i s ha hn with hh | hh
      · exact .inl (Nat.le_trans h.kept.size hh)
      · exact mineOf _ hh
    · rw [at_no p hp] at hs
      rw [(hno p hp).1] at hn ⊢
      exact h.ok.mine p s hs fun hh => hn (h1 _ hh)
  · intro k hkl hm
    rw [hblk k (Nat.lt_of_lt_of_le hkl h.kept.size) fun hb => by
      rcases mineOf k hb with hh | hh
      · exact absurd hkl (Nat.not_lt.2 hh)
      · exact hm hh]
    exact h.kept.block k hkl hm
  · intro b hb
    rcases h2 b hb with hh | hh | hh
    · exact h.bs b hh
    · exact .inr (.inl (Nat.le_trans h.kept.size hh))
    · rcases mineOf b hh with hh | hh
      · exact .inr (.inl hh)
      · exact .inr (.inr hh)
end Go.V
namespace Go.V
open Go.RowKit
variable {P : Program} {gl : Gl} {T : Tab} {B : Base} {S : Nat → Prop} {H : Hp} {a : Act} {w : World} {E : Operand → AV} {n : Nat} {K : AV → List (Nat × Ob) → Prop} {dr : Bool}
mutual
theorem repF_ge {S : Nat → Prop} {b : Nat} {w : World} : ∀ (x : AV) (v : Value) (F : List (Nat × Nat)), RepF S b w x v F → ∀ q ∈ F, b ≤ q.1
  | .fr e sz es, v, F, h => by
    simp only [RepF] at h
    obtain ⟨b', cap, rfl, _, h3, _⟩ := h
    intro q hq; simp at hq; subst hq; exact h3
  | .agg cs, v, F, h => by
    simp only [RepF] at h
    obtain ⟨vs, e, h1, h2⟩ := h
    exact repFL_ge cs vs F h2
  | .tup cs, v, F, h => by
    simp only [RepF] at h
    obtain ⟨vs, e, h2⟩ := h
    exact repFL_ge cs vs F h2
  | .j, v, F, h | .u, v, F, h | .int _ _, v, F, h | .bool _, v, F, h | .str _, v, F, h | .nils, v, F, h | .nili, v, F, h
  | .own _ _ _, v, F, h | .ptr _ _ _, v, F, h | .bptr _ _, v, F, h | .map _, v, F, h | .rp _, v, F, h | .ro _ _, v, F, h | .fn _ _, v, F, h | .iface _ _, v, F, h => by
    simp only [RepF] at h
    rw [h.1]; simp
theorem repFL_ge {S : Nat → Prop} {b : Nat} {w : World} : ∀ (xs : List AV) (vs : List Value) (F : List (Nat × Nat)), RepFL S b w xs vs F → ∀ q ∈ F, b ≤ q.1
  | [], vs, F, h => by simp only [RepFL] at h; rw [h.2]; simp
  | x :: xs, vs, F, h => by
    simp only [RepFL] at h
    obtain ⟨v, r, F1, F2, rfl, rfl, h1, h2⟩ := h
    intro q hq
    rcases List.mem_append.1 hq with hq | hq
    · exact repF_ge x v F1 h1 q hq
    · exact repFL_ge xs r F2 h2 q hq
end
mutual
theorem repF_later {S S' : Nat → Prop} {b : Nat} {w w' : World} (L : Later S H0 w S' H0 w') : ∀ (x : AV) (v : Value) (F : List (Nat × Nat)), RepF S b w x v F → (∀ q ∈ F, w'.heap[q.1]? = w.heap[q.1]?) → RepF S' b w' x v F
  | .fr e sz es, v, F, h, hF => by
    simp only [RepF] at h ⊢
    obtain ⟨b', cap, rfl, h2, h3, h4⟩ := h
    exact ⟨b', cap, rfl, h2, h3, h4.later L (hF (b', cap) (by simp))⟩
  | .agg cs, v, F, h, hF => by
    simp only [RepF] at h ⊢
    obtain ⟨vs, e, h1, h2⟩ := h
    exact ⟨vs, e, h1, repFL_later L cs vs F h2 hF⟩
  | .tup cs, v, F, h, hF => by
    simp only [RepF] at h ⊢
    obtain ⟨vs, e, h2⟩ := h
    exact ⟨vs, e, repFL_later L cs vs F h2 hF⟩
  | .j, v, F, h, _ | .u, v, F, h, _ | .int _ _, v, F, h, _ | .bool _, v, F, h, _ | .str _, v, F, h, _ | .nils, v, F, h, _ | .nili, v, F, h, _
  | .own _ _ _, v, F, h, _ | .ptr _ _ _, v, F, h, _ | .bptr _ _, v, F, h, _ | .map _, v, F, h, _ | .rp _, v, F, h, _ | .ro _ _, v, F, h, _ | .fn _ _, v, F, h, _ | .iface _ _, v, F, h, _ => by
    simp only [RepF] at h ⊢
    exact ⟨h.1, RepV.later L _ _ h.2⟩
theorem repFL_later {S S' : Nat → Prop} {b : Nat} {w w' : World} (L : Later S H0 w S' H0 w') : ∀ (xs : List AV) (vs : List Value) (F : List (Nat × Nat)), RepFL S b w xs vs F → (∀ q ∈ F, w'.heap[q.1]? = w.heap[q.1]?) → RepFL S' b w' xs vs F
  | [], vs, F, h, _ => by simpa [RepFL] using h
  | x :: xs, vs, F, h, hF => by
    simp only [RepFL] at h ⊢
    obtain ⟨v, r, F1, F2, rfl, rfl, h1, h2⟩ := h
    exact ⟨v, r, F1, F2, rfl, rfl, repF_later L x v F1 h1 (fun q hq => hF q (List.mem_append_left _ hq)), repFL_later L xs r F2 h2 (fun q hq => hF q (List.mem_append_right _ hq))⟩
end
theorem vfin_cases {ps : List Nat} {G : Nat → Ob} {x : AV} {K : List (Nat × Ob) → Prop} (h : vfin ps G x K) : (ps = [] ∧ K []) ∨ (Flat x ∧ K []) ∨ (anyBox G ps = false ∧ K (frzP G ps)) := by
  unfold vfin at h
  split at h
  · exact .inl ⟨rfl, h⟩
  · split at h
    · exact .inr (.inl ⟨roQ_flat x ‹_›, h⟩)
    · simp only [chk_iff, Bool.not_eq_true'] at h
      exact .inr (.inr h)
    · obtain ⟨b, h⟩ := h
      cases b with
      | true => simp only [chk_iff, Bool.not_eq_true'] at h; exact .inr (.inr h)
      | false => exact .inr (.inl h)
theorem anyBox_no {G : Nat → Ob} : ∀ {ps : List Nat}, anyBox G ps = false → ∀ p ∈ ps, ∀ t cs, G p ≠ .box t cs
  | [], _, p, hp, _, _ => by simp at hp
  | q :: ps, h, p, hp, t, cs => by
    simp only [anyBox] at h
    split at h
    · cases h
    · rename_i hq
      simp only [List.mem_cons] at hp
      rcases hp with rfl | hp
      · exact hq t cs
      · exact anyBox_no h p hp t cs
theorem call_fin (h : Wd gl B S H w) {w' : World} (hb : Below w.heap.size w w') {aS : List AV} {x : AV} {v : Value} (hf : Free n H K) (hk : vres aS (getOb H.h) n K x)
    (hres : ResOK (fun b => S b ∨ (∃ p ∈ lentL (getOb H.h) aS, (∃ fz e sz es, getOb H.h p = .row fz e sz es) ∧ b = H.β p) ∨ ∃ p ∈ lentL (getOb H.h) aS, (∃ t cs, getOb H.h p = .box t cs) ∧ b = H.β p) w.heap.size w' x v) :
    ∃ y d S'' H'', K y d ∧ Eff gl B S H w S'' H'' w' d ∧ RepV S'' H'' w' y v := by
  obtain ⟨S1, F, hF, hnd, hFS, hS1⟩ := hres
  have hge := repF_ge x v F hF
  have E1 := eff_world h hb.os hb.tape hb.output hb.size hb.block
  unfold vres at hk
  have posn : ∀ d0, K (absorb n x).1 (d0 ++ (absorb n x).2) → ∀ q ob, (q, ob) ∈ (absorb n x).2 → getOb H.h q = .dead := fun d0 hK q ob hq => hf _ _ hK q ob (List.mem_append_right _ hq) (absorb_pos x n q ob hq).1
  have live : ∀ q ∈ F, ∀ p s, H.at p = some (some s) → H.β p ≠ q.1 := fun q hq p s hp e => by
    have := live_lt h.ok hp
    have := hge q hq
    omega
  rcases vfin_cases hk with ⟨hps, hK⟩ | ⟨hfl, hK⟩ | ⟨hnb, hK⟩
  · rw [hps] at hS1
    have E2 := eff_more E1.wd (fun b => S1 b ∧ w.heap.size ≤ b) (fun b hb => ⟨(hS1 b hb.1).1, fun p s hp e => by
      have := live_lt h.ok hp
      omega⟩) (fun b hb => Nat.le_trans h.kept.size hb.2)
    have L1 : Later S1 H0 w' (fun b => S b ∨ S1 b ∧ w.heap.size ≤ b) H0 w' := ⟨fun b hb _ => ⟨by
      rcases (hS1 b hb).2 with (h1 | ⟨p, hp, _⟩ | ⟨p, hp, _⟩) | h2
      · exact .inl h1
      · simp at hp
      · simp at hp
      · exact .inr ⟨hb, h2⟩, rfl⟩, Nat.le_refl _, fun p hp => absurd (at_H0 p) hp⟩
    obtain ⟨H', k1, k2⟩ := absorb_ok x n H v F E2.wd (repF_later L1 x v F hF fun _ _ => rfl) ⟨hnd, fun q hq => ⟨fun hh => by
      rcases hh with hh | hh
      · have := h.ok.sb _ hh; have := hge q hq; omega
      · exact hFS q hq hh.1, live q hq, Nat.le_trans h.kept.size (hge q hq)⟩⟩ (posn _ hK)
    exact ⟨_, _, _, H', hK, by have := E1.trans (E2.trans k1.eff); simpa using this, k2⟩
  · obtain ⟨H', k1, k2⟩ := absorb_ok x n H v F E1.wd (flat_repF x v F hfl hF) ⟨hnd, fun q hq => ⟨fun hh => by
      have := h.ok.sb _ hh; have := hge q hq; omega, live q hq, Nat.le_trans h.kept.size (hge q hq)⟩⟩ (posn _ hK)
    exact ⟨_, _, _, H', hK, by have := E1.trans k1.eff; simpa using this, k2⟩
  · have E2 := eff_more E1.wd (fun b => S1 b ∧ w.heap.size ≤ b) (fun b hb => ⟨(hS1 b hb.1).1, fun p s hp e => by
      have := live_lt h.ok hp
      omega⟩) (fun b hb => Nat.le_trans h.kept.size hb.2)
    obtain ⟨S3, H3, E3, f1, f2, f3, f4, f5, f6, f7⟩ := eff_frzP (getOb H.h) (lentL (getOb H.h) aS) E2.wd (SameRows.refl _)
    have L1 : Later S1 H0 w' S3 H0 w' := ⟨fun b hb _ => ⟨by
      rcases (hS1 b hb).2 with (h1 | ⟨p, hp, ⟨fz, e, sz, es, ho⟩, rfl⟩ | ⟨p, hp, ⟨t, cs, ho⟩, _⟩) | h2
      · exact (E3.later.blk b (.inl h1) (hS1 b hb).1).1
      · rw [← f2]; exact f1 p hp _ _ _ _ ho
      · exact absurd ho (anyBox_no hnb p hp t cs)
      · exact (E3.later.blk b (.inr ⟨hb, h2⟩) (hS1 b hb).1).1, rfl⟩, Nat.le_refl _, fun p hp => absurd (at_H0 p) hp⟩
    have atq : ∀ p s, H3.at p = some (some s) → ∃ s', H.at p = some (some s') := fun p s hp => by
      by_cases hrow : ∃ fz e sz es, getOb H.h p = .row fz e sz es
      · obtain ⟨fz, e, sz, es, ho⟩ := hrow
        exact ⟨_, at_row ho⟩
      · refine ⟨s, ?_⟩
        unfold Hp.at at hp ⊢
        rw [f6 p hrow] at hp; exact hp
    obtain ⟨H', k1, k2⟩ := absorb_ok x n H3 v F E3.wd (repF_later L1 x v F hF fun _ _ => rfl) ⟨hnd, fun q hq => ⟨fun hh => by
      have hq2 := hge q hq
      rcases f7 _ hh with (hh | hh) | ⟨p, hp, fz, e, sz, es, ho, e'⟩
      · have := h.ok.sb _ hh; omega
      · exact hFS q hq hh.1
      · have := live_lt h.ok (at_row ho); omega, fun p s hp e => by
        obtain ⟨s', hp'⟩ := atq p s hp
        rw [f2] at e
        exact live q hq p s' hp' e, Nat.le_trans h.kept.size (hge q hq)⟩⟩ (fun q ob hq => by
      have hd := posn _ hK q ob hq
      rw [f6 q (by rw [hd]; simp)]; exact hd)
    exact ⟨_, _, _, H', hK, by have := E1.trans (E2.trans (E3.trans k1.eff)); simpa using this, k2⟩
theorem wp_gets {o : Oper} {f : FuncId} {vs : Array Value} {R : Value → World → Prop} (hg : Gets P f vs w R) (he : (execOp a.eval o).run P w = (callFunc f vs).run P w) {next : Act → World → Prop} {Q : Exit → Act → World → Prop}
    (hn : ∀ v w', R v w' → next (a.put o.dst v) w') : o.wp P a w next Q := by
  unfold Oper.wp
  rw [he]
  rcases hg with ⟨h1, h2⟩ | ⟨v, w', h1, h2⟩ | ⟨row, aS, w1, h1, h2⟩
  · rw [h1, Oper.upon_enter]
    refine h2.mono fun e w' hh => ?_
    obtain ⟨v, rfl, hr⟩ := hh
    exact hn v w' hr
  · rw [h1]; exact hn v w' h2
  · rw [h1, Oper.upon_row]
    exact h2.mono fun v w' hr => hn v w' hr
theorem callH_ok (hr : Opn gl B S H w E a) {o : Oper} {f : FuncId} {aS : List AV} {vals : List Value} (has : RepL S H w aS vals)
    (he : (execOp a.eval o).run P w = (callFunc f vals.toArray).run P w) (hf : Free n H K) (h : vcallH P gl dr f aS (getOb H.h) n K) : Ok1 P gl B S H a w o K := by
  obtain ⟨ps, hc, h⟩ := h
  have h : ∃ R : AV → List Ob → Prop, VCallH P gl f (renL ps aS) (keepG (getOb H.h) ps) R ∧ ∀ x h', R x h' → K (tr ps n x) (trD ps n 0 h') := by
    cases dr with
    | false => exact h
    | true => obtain ⟨r, h', h1, h2⟩ := h; exact ⟨_, h1, fun x hx hh => by rw [hh.1, hh.2]; exact h2⟩
  obtain ⟨R, hV, hK⟩ := h
  simp only [Bool.and_eq_true, handOK, List.all_eq_true] at hc
  have hlt : ∀ p ∈ ps, p < n := fun p hp => by simpa [Nat.blt_eq] using (hc.2 p hp).1
  intro next Q hn
  have hobs : (H.keep ps).h = keepG (getOb H.h) ps := keepH_map H.h ps ps
  have hok := ok_keep hr.wd.ok hc.1
  refine wp_gets (hV S (H.keep ps) w vals hobs (fun i hi => ?_) ⟨hok.sb, hok.row, hok.box, hok.kv, hok.inj, hok.it, fun p s hp hns => .inr ⟨p, s, hp, rfl, hns⟩⟩ hr.wd.gl (ren_repL ps _ _ has)) he fun v w' hh => ?_
  · have hl : i < ps.length := by simpa [keepG] using hi
    have hq : ps[i]? = some ps[i] := List.getElem?_eq_getElem hl
    rw [(keep_at (H := H) hq).1]
    have := (hc.2 _ (List.getElem_mem hl)).2.2
    unfold Hp.at
    unfold liveB at this
    intro e
    cases hg : getOb H.h ps[i] <;> rw [hg] at this e <;> simp [Ob.sz] at this e
  · obtain ⟨x, S', H', hx, k1, k2, k3, k4, k5, k6⟩ := hh
    have hKx := hK x _ hx
    obtain ⟨H'', hE, hT⟩ := eff_bulk hr.wd hc.1 hlt k1 k2 k3 k4 k5 fun q ob hq hge => hf _ _ hKx q ob hq hge
    exact hn _ _ v S' H'' w' hKx hE (tr_rep hT x v k6)
theorem call_ok (hr : Opn gl B S H w E a) {o : Oper} {f : FuncId} {nas aS : List AV} {vals : List Value} (has : RepL S H w aS vals) (hnas : ∀ S', LentB S H S' (lentL (getOb H.h) aS) → RepL S' H0 w nas vals)
    (he : (execOp a.eval o).run P w = (callFunc f vals.toArray).run P w) (hf : Free n H K) (h : vcall P gl dr f nas aS (getOb H.h) n K) : Ok1 P gl B S H a w o K := by
  rcases h with h | h
  case inr => exact callH_ok hr has he hf h
  have h : ∃ R : AV → Prop, VCall P gl f nas R ∧ ∀ x, R x → vres aS (getOb H.h) n K x := by
    unfold vcallR at h
    cases dr with
    | false => exact h
    | true => obtain ⟨r, h1, h2⟩ := h; exact ⟨_, h1, fun x hx => by rw [hx]; exact h2⟩
  obtain ⟨R, hV, hK⟩ := h
  intro next Q hn
  have hlent : LentB S H (fun b => S b ∨ (∃ p ∈ lentL (getOb H.h) aS, (∃ fz e sz es, getOb H.h p = .row fz e sz es) ∧ b = H.β p) ∨ ∃ p ∈ lentL (getOb H.h) aS, (∃ t cs, getOb H.h p = .box t cs) ∧ b = H.β p) (lentL (getOb H.h) aS) :=
    ⟨⟨fun b hb => .inl hb, fun p hp fz e sz es ho => .inr (.inl ⟨p, hp, ⟨_, _, _, _, ho⟩, rfl⟩)⟩, fun p hp t cs ho => .inr (.inr ⟨p, hp, ⟨_, _, ho⟩, rfl⟩)⟩
  refine wp_gets (hV _ w vals ?_ (hr.wd.gl.later hlent.1.later) (hnas _ hlent)) he fun v w' hh => ?_
  · rintro b (hb | ⟨p, hp, ⟨fz, e, sz, es, ho⟩, rfl⟩ | ⟨p, hp, ⟨t, cs, ho⟩, rfl⟩)
    · exact hr.wd.ok.sb b hb
    · exact live_lt hr.wd.ok (at_row ho)
    · exact live_lt hr.wd.ok (at_box ho)
  · obtain ⟨x, hx, hres, hbel⟩ := hh
    obtain ⟨y, d, S'', H'', hKy, hE, hrep⟩ := call_fin hr.wd hbel hf (hK x hx) hres
    exact hn y d v S'' H'' w' hKy hE hrep
theorem nargs_rep (hr : Opn gl B S H w E a) {S' : Nat → Prop} : ∀ (xs : List Operand) (ts : List Nat), LentB S H S' (lentL (getOb H.h) (xs.map E)) → RepL S' H0 w (nargs T E (getOb H.h) xs ts) (xs.map a.eval)
  | [], _, _ => by simp [nargs, RepL]
  | x :: xs, [], hl => by
    simp only [nargs, List.map_cons, RepL]
    exact ⟨_, _, rfl, norm_rep hr.wd.ok _ _ (hl.mono fun q hq => by simp [lentL, hq]) (hr.ev x), nargs_rep hr xs [] (hl.mono fun q hq => by simp [lentL, hq])⟩
  | x :: xs, t :: ts, hl => by
    simp only [nargs, List.map_cons, RepL]
    exact ⟨_, _, rfl, norm_rep hr.wd.ok _ _ (hl.mono fun q hq => by simp [lentL, hq]) (hr.ev x), nargs_rep hr xs ts (hl.mono fun q hq => by simp [lentL, hq])⟩
theorem args_rep (hr : Opn gl B S H w E a) : ∀ (xs : List Operand), RepL S H w (xs.map E) (xs.map a.eval)
  | [] => by simp [RepL]
  | x :: xs => by
    simp only [List.map_cons, RepL]
    exact ⟨_, _, rfl, hr.ev x, args_rep hr xs⟩
theorem lentL_append (G : Nat → Ob) : ∀ (xs ys : List AV), lentL G (xs ++ ys) = lentL G xs ++ lentL G ys
  | [], ys => rfl
  | x :: xs, ys => by simp [lentL, lentL_append G xs ys]
theorem mem_lent1L {G : Nat → Ob} {q : Nat} : ∀ {xs : List AV}, q ∈ lent1L G xs → q ∈ lentL G xs
  | [], h => by simp [lent1L] at h
  | x :: xs, h => by
    simp only [lent1L, lentL, List.mem_append] at h ⊢
    rcases h with h | h
    · left
      cases x <;> first | exact h | (simp [lent1, lent0] at h; done)
    · exact .inr (mem_lent1L h)
theorem ok_callF (hr : Opn gl B S H w E a) {o : Oper} {f : FuncId} {args : Array Operand} {ats : Array TypeId} (ho : o.op = .call { callee := .value (.func f), args, argTypes := ats }) (hf : Free n H K)
    (h : vop P gl T dr o.op E (getOb H.h) n K) : Ok1 P gl B S H a w o K := by
  rw [ho] at h
  simp only [vop] at h
  refine call_ok hr (vals := args.toList.map a.eval) (args_rep hr _) (fun S' hl => nargs_rep hr _ _ hl) ?_ hf h
  have e : args.toList.map a.eval = (args.map a.eval).toList := by rw [Array.toList_map]
  rw [e, Array.toArray_toList]
  simp [execOp, ho, resolve, Act.eval, Deferred.ofValue, invoke]
theorem ok_callT (hr : Opn gl B S H w E a) {o : Oper} {t : Tmp} {args : Array Operand} {ats : Array TypeId} (ho : o.op = .call { callee := .value (.tmp t), args, argTypes := ats }) (hf : Free n H K)
    (h : vop P gl T dr o.op E (getOb H.h) n K) : Ok1 P gl B S H a w o K := by
  rw [ho] at h
  simp only [vop] at h
  have ht := hr.ev (.tmp t)
  split at h
  · rename_i f cap e
    rw [e] at ht
    simp only [RepV] at ht
    obtain ⟨vs, hv, hl⟩ := ht
    refine call_ok hr (vals := args.toList.map a.eval ++ vs) (RepL.append (args_rep hr _) hl) (fun S' hl' => ?_) ?_ hf h
    · rw [lentL_append] at hl'
      exact RepL.append (nargs_rep hr _ _ (hl'.mono fun q hq => List.mem_append_left _ hq)) (normL_rep hr.wd.ok [] cap (hl'.mono fun q hq => List.mem_append_right _ (mem_lent1L hq)) hl)
    · have e : args.toList.map a.eval ++ vs = (args.map a.eval ++ vs.toArray).toList := by simp
      rw [e, Array.toArray_toList]
      simp [execOp, ho, resolve, hv, Deferred.ofValue, invoke]
  · exact h.elim
end Go.V
namespace Go.V
open Go.RowKit
variable {P : Program} {gl : Gl} {T : Tab} {B : Base} {S : Nat → Prop} {H : Hp} {a : Act} {w : World} {E : Operand → AV} {n : Nat} {K : AV → List (Nat × Ob) → Prop} {dr : Bool}
theorem flatten_one : ∀ {vss : List (List Value)}, (∀ vs ∈ vss, vs.length = 1) → ∀ k, (vss.take k).flatten = vss.flatten.take k ∧ (vss.drop k).flatten = vss.flatten.drop k
  | [], _, k => by simp
  | x :: vss, h, 0 => by simp
  | x :: vss, h, k + 1 => by
    obtain ⟨h1, h2⟩ := flatten_one (fun vs hv => h vs (List.mem_cons_of_mem _ hv)) k
    have hx := h x List.mem_cons_self
    match x, hx with
    | [v], _ => simp only [List.take_succ_cons, List.drop_succ_cons, List.flatten_cons, List.cons_append, List.nil_append, h1, h2]; exact ⟨trivial, trivial⟩
theorem ok_copy (hT : TOK P T) (hr : Opn gl B S H w E a) {o : Oper} {args : Array Operand} {ats : Array TypeId} (ho : o.op = .call { callee := .builtin .copy, args, argTypes := ats })
    (h : vop P gl T dr o.op E (getOb H.h) n K) : Ok1 P gl B S H a w o K := by
  rw [ho] at h
  simp only [vop] at h
  split at h
  · rename_i x y t t' ea et
    have ea : args = #[x, y] := by rw [← Array.toArray_toList (xs := args), ea]
    have et : ats = #[t, t'] := by rw [← Array.toArray_toList (xs := ats), et]
    subst ea et
    have hx := hr.ev x
    have hy := hr.ev y
    unfold vcopy at h
    obtain ⟨e, hu, hke, h⟩ := sl_ok hT h
    have hinfo := (hT.get hke).info
    cases hi : P.info? e with
    | none => rw [hi] at hinfo; cases hinfo
    | some i =>
    rw [hi] at hinfo
    simp only [Option.map_some, Option.some.injEq, Prod.mk.injEq] at hinfo
    obtain ⟨i1, i2, i3⟩ := hinfo
    split at h
    · rename_i sz new hnorm
      simp only [chk_iff, Bool.and_eq_true] at h
      obtain ⟨⟨⟨hsz, ht1⟩, hpos⟩, h⟩ := h
      have hsz := Nat.eq_of_beq_eq_true hsz
      have ht1 := Nat.eq_of_beq_eq_true ht1
      have hpos : 0 < new.length := by simpa using hpos
      subst hsz
      obtain ⟨A, c, hyv, hym, hread⟩ := slice_read hr.wd.ok hy hnorm
      rcases hread with hnil | ⟨ad, vss2, rfl, k1, k2, k3⟩
      · subst hnil; exact absurd hpos (by simp)
      split at h
      · rename_i p off len e1
        split at h
        · rename_i e' sz' es hg
          obtain ⟨hs', m, hm, hfit, r, rfl, hK⟩ := h
          have hs' := Nat.eq_of_beq_eq_true hs'
          subst hs'
          have hat := at_row hg
          rw [e1] at hx; simp only [RepV] at hx
          obtain ⟨hxv, hle⟩ := hx.2.2 _ hat
          simp only [Nat.mul_one] at hxv
          obtain ⟨⟨cur, vss, r1, r2, r3, r4, r5, r6, r7, r8⟩, r9⟩ := hr.wd.ok.row p _ _ _ _ hg
          have hl1 := RepLL.length r6
          have hl2 := RepLL.length k1
          have one1 : ∀ vs ∈ vss, vs.length = 1 := fun vs hv => (r7 vs hv).1
          have one2 : ∀ vs ∈ vss2, vs.length = 1 := fun vs hv => (k2 vs hv).1
          have hf1 : vss.flatten.length = es.length := by rw [flatten_length one1, hl1]; omega
          have hf2 : vss2.flatten.length = new.length := by rw [flatten_length one2, hl2]; omega
          obtain ⟨cs, hcs⟩ : ∃ cs, cs = (vss2.take m).flatten := ⟨_, rfl⟩
          have hcs2 : cs = vss2.flatten.take m := by rw [hcs]; exact (flatten_one one2 m).1
          have hcl : cs.length = m := by rw [hcs2, List.length_take, hf2]; omega
          have hcell : ∀ j u, cs[j]? = some u → w.cell? (ad.add j) = some u := fun j u hj => by
            rw [hcs2, List.getElem?_take] at hj
            split at hj
            · obtain ⟨vs, g1, g2⟩ := flatten_get (by omega : 0 < 1) one2 hj
              have := k3 _ vs g1 _ u g2
              rwa [Nat.mul_comm, Nat.div_add_mod] at this
            · cases hj
          have hone : ∀ u ∈ cs, u.oneCell' = true := fun u hu => by
            rw [hcs] at hu
            obtain ⟨vs, g1, g2⟩ := List.mem_flatten.1 hu
            exact (k2 vs (List.mem_of_mem_take g1)).2 u g2
          have hcur : es.length ≤ cur.size := by simp only [Nat.mul_one] at r2; omega
          have hrun := run_copy_row (P := P) w t t' o.type e (H.β p) off len (H.κ p - off) ad new.length c cur e' cs hu (by simp only [hi, Option.map_some, i2, ht1]) r1 (by rw [hcl, hm]) hcell (by omega) hone
          have hflat : cur.toList.take es.length = vss.flatten := by simpa using r8
          have E2 := eff_set hr.wd (p := p) (ob := .row false e' 1 (es.take off ++ new.take m ++ es.drop (off + m))) (w' := w.setRow (H.β p) (cur.toList.take off ++ cs ++ cur.toList.drop (off + cs.length)).toArray) (at_row hg) (by simp [Ob.sz]; omega) rfl rfl rfl (setRow_size _ _ _) (fun k hk => setRow_other _ _ _ _ hk)
            (by intro hs; exact absurd (r9.1 hs) (by simp))
            ⟨rfl, _, vss.take off ++ vss2.take m ++ vss.drop (off + m), setRow_heap _ _ _ _ _ _ r1, by simp [hcl] at r2 ⊢ <;> omega, r3, by simp; omega, r5, RepLL.append (RepLL.append (RepLL.take _ r6) (RepLL.take _ k1)) (RepLL.drop _ r6), by
              intro ws hws
              simp only [List.mem_append] at hws
              rcases hws with (hws | hws) | hws
              · exact r7 ws (List.mem_of_mem_take hws)
              · exact k2 ws (List.mem_of_mem_take hws)
              · exact r7 ws (List.mem_of_mem_drop hws), by
              rw [List.flatten_append, List.flatten_append, (flatten_one one1 off).1, (flatten_one one1 (off + m)).2, ← hcs, ← hflat, hcl]
              have hlen : (es.take off ++ new.take m ++ es.drop (off + m)).length * 1 = es.length := by simp; omega
              rw [hlen]
              simp only [List.toList_toArray]
              rw [List.take_take, Nat.min_eq_left (by omega), List.take_append, List.take_of_length_le (by simp; omega), List.drop_take]
              congr 1
              congr 1
              simp; omega⟩
          refine ok_eff (u := goInt cs.length) ?_ hK E2 (by rw [hcl]; simp [RepV, goInt])
          rw [← hxv, ← hyv] at hrun
          simp [execOp, ho, resolve, invoke, builtin, hrun]
        · exact h.elim
      · exact h.elim
    · exact h.elim
  · exact h.elim
end Go.V
namespace Go.V
open Go.RowKit
variable {P : Program} {gl : Gl} {T : Tab} {B : Base} {S : Nat → Prop} {H : Hp} {a : Act} {w : World} {E : Operand → AV} {n : Nat} {K : AV → List (Nat × Ob) → Prop} {dr : Bool}
theorem ok_op (hT : TOK P T) (hr : Opn gl B S H w E a) {o : Oper} (hf : Free n H K) (h : vop P gl T dr o.op E (getOb H.h) n K) : Ok1 P gl B S H a w o K := by
  cases ho : o.op with
  | move x => exact ok_move hr (.inl ho) (by rw [ho] at h; exact h)
  | assign x => exact ok_move hr (.inr ho) (by rw [ho] at h; exact h)
  | pick c x y => exact ok_pick hr ho h
  | alloc t => exact ok_alloc hT hr ho hf h
  | box t x => exact ok_box hr ho hf h
  | build t ps => exact ok_build hT hr ho h
  | buildSlice t len ps => exact ok_buildSlice hT hr ho hf h
  | insert t m k v => exact ok_mapUpdate hT hr (.inr ho) h
  | mapUpdate t m k v => exact ok_mapUpdate hT hr (.inl ho) h
  | load t x => exact ok_load hT hr ho h
  | store t x y => exact ok_store hT hr ho h
  | nilCheck x => exact ok_nil hr ho h
  | binOp op t x y ty => exact ok_bin hT hr ho h
  | unOp op t x => exact ok_un hr ho h
  | convert s d x => exact ok_conv hT hr ho h
  | makeInterface t x => exact ok_mkI hT hr ho h
  | makeFunc f fi cap =>
    cases f with
    | func f =>
      rw [ho] at h
      simp only [vop] at h
      split at h
      · rename_i e
        exact ok_fn hr (by rw [← Array.toArray_toList (xs := fi), e]) ho h
      · exact h.elim
    | _ => rw [ho] at h; exact h.elim
  | makeMap t r =>
    cases r with
    | none => exact ok_makeMap hr ho hf h
    | some r => rw [ho] at h; exact h.elim
  | makeSlice t l c => exact ok_makeSlice hT hr ho hf h
  | slice t x lo hi mx =>
    cases mx with
    | none => exact ok_slice hT hr ho h
    | some m => rw [ho] at h; exact h.elim
  | fieldAddr t x f => exact ok_fieldAddr hT hr ho h
  | field t x f => exact ok_field hT hr ho h
  | indexAddr t x i => exact ok_indexAddr hT hr ho h
  | index t x i => exact ok_index hT hr ho h
  | lookup t x i ok => exact ok_lookup hT hr ho h
  | extract x i => exact ok_extract hr ho h
  | call c =>
    obtain ⟨callee, args, ats⟩ := c
    cases callee with
    | value f =>
      cases f with
      | func f => exact ok_callF hr ho hf h
      | tmp t => exact ok_callT hr ho hf h
      | _ => rw [ho] at h; exact h.elim
    | invoke r m => rw [ho] at h; exact h.elim
    | builtin b =>
      cases b with
      | len => exact ok_len hT hr ho h
      | append => exact ok_append hT hr ho hf h
      | copy => exact ok_copy hT hr ho h
      | min => exact ok_min hr ho h
      | max => exact ok_max hr ho h
      | _ => rw [ho] at h; exact h.elim
  | range t x => exact ok_range hT hr ho hf h
  | next x b => cases b with
    | true => exact ok_next hr ho h
    | false => rw [ho] at h; exact h.elim
  | _ => rw [ho] at h; exact h.elim
end Go.V
namespace Go.V
open Go.RowKit
variable {P : Program} {gl : Gl} {T : Tab} {B : Base} {S : Nat → Prop} {H : Hp} {a : Act} {w : World}
def dstB (N : Nat) (o : Oper) : Bool := match o.dst with | some d => Nat.blt d N | none => true
theorem dstB_ok {N : Nat} {o : Oper} (h : dstB N o = true) : ∀ d, o.dst = some d → d < N := fun d hd => by
  unfold dstB at h; rw [hd] at h; simpa using h
theorem put_size (a : Act) (d : Option Tmp) (v : Value) : (a.put d v).tmps.size = a.tmps.size := by cases d <;> simp [Act.put]
theorem put_defers (a : Act) (d : Option Tmp) (v : Value) : (a.put d v).defers = a.defers := by cases d <;> rfl
theorem vguard_ok {st : St} (hr : Rel gl B S H st a w) {ops : Array Oper} {o : Oper} {b : Bool} (h : vguard ops o st = some b) : Region.wanted o (yielded ops a.tmps) = b := by
  unfold vguard at h
  unfold Region.wanted
  split at h
  · rename_i hg; rw [hg]; simp at h ⊢; exact h
  · rename_i i c hg
    rw [hg]
    simp only
    split at h
    · cases h
    · rename_i d hd
      have ht := hr.tm d
      unfold yielded
      rw [hd]
      simp only [Option.bind_some]
      split at h
      · rename_i c' e
        rw [e] at ht
        simp only [RepV] at ht
        have : a.tmps[d]? = some (.bool c') := by
          rw [Array.getD_eq_getD_getElem?] at ht
          cases hx : a.tmps[d]? with
          | none => rw [hx] at ht; simp [undef] at ht
          | some y => rw [hx] at ht; simp at ht; rw [ht]
        rw [this]
        simp only [Option.some.injEq] at h
        subst h
        simp
      · rename_i e
        rw [e] at ht
        simp only [RepV] at ht
        simp only [Option.some.injEq] at h
        subst h
        cases hx : a.tmps[d]? with
        | none => simp
        | some y =>
          rw [Array.getD_eq_getD_getElem?, hx] at ht
          simp only [Option.getD_some] at ht
          subst ht
          simp
      · cases h
def Post (gl : Gl) (B : Base) (N : Nat) (ds : List Deferred) (Q : Ex → St → Prop) : Exit → Act → World → Prop := fun e a w =>
  a.tmps.size = N ∧ a.defers = ds ∧ ∃ S H st, Rel gl B S H st a w ∧ match e with
    | .normal => Q .nrm st
    | .exit id => Q (.ex id) st
    | .ret => Q .ret st
    | _ => False
theorem free_len {st : St} {K : AV → List (Nat × Ob) → Prop} (hh : H.h = st.h) : Free st.h.length H K := fun x d _ q ob _ hq => by rw [hh]; exact getOb_ge _ _ hq
theorem rel_skip {st : St} (hr : Rel gl B S H st a w) {d : Option Tmp} (hd : ∀ d', d = some d' → d' < a.tmps.size) : Rel gl B S H (st.put d .u) (a.put d undef) w := by
  have := hr.upd (Eff.refl hr.wd) hd (x := .u) (u := undef) rep_u
  simpa [St.upd, setAll] using this
theorem region_ok (hT : TOK P T) (ops : Array Oper) {N : Nat} {ds : List Deferred} {Q : Ex → St → Prop} : ∀ (l : List Oper) (st : St) (S : Nat → Prop) (H : Hp) (a : Act) (w : World), Rel gl B S H st a w → a.tmps.size = N → a.defers = ds → (∀ o ∈ l, dstB N o = true) →
    vregion P gl T ops (Q .nrm) l st → wpList P ops (Post gl B N ds Q) l a w
  | [], st, S, H, a, w, hr, hN, hds, _, h => ⟨hN, hds, S, H, st, hr, h⟩
  | o :: l, st, S, H, a, w, hr, hN, hds, hD, h => by
    simp only [vregion, vone, fN_eq, fV_eq, fD_eq] at h
    simp only [wpList]
    have hd : ∀ d, o.dst = some d → d < a.tmps.size := by rw [hN]; exact dstB_ok (hD o (by simp))
    rcases vgd_cases h with ⟨hg, h⟩ | ⟨hg, h⟩
    · rw [vguard_ok hr hg, if_pos rfl]
      left
      rw [← hr.hh] at h
      refine ok_op hT hr.opn (by rw [hr.hh]; exact free_len hr.hh) h _ _ fun x d u S' H' w' hk he hx => ?_
      have hr' := hr.upd he hd hx
      exact region_ok hT ops l _ S' H' _ w' hr' (by rw [put_size]; exact hN) (by rw [put_defers]; exact hds) (fun o ho => hD o (List.mem_cons_of_mem _ ho)) hk
    · rw [vguard_ok hr hg]
      simp only [Bool.false_eq_true, if_false]
      exact region_ok hT ops l _ S H _ w (rel_skip hr hd) (by rw [put_size]; exact hN) (by rw [put_defers]; exact hds) (fun o ho => hD o (List.mem_cons_of_mem _ ho)) h
end Go.V
