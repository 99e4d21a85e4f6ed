/- Steps shared by the proofs of this seat's statements (part 0). -/
import Derived.Orders
import Derived.Laws.Cells
import Derived.Laws.IdiomCopy
import Derived.Deep.AppendSrc
import Derived.Laws.MakeOwn
import Derived.Great.BuildSlice
import Derived.LoopN
import Derived.Room.Entries
import Derived.Lib.TrailingZeros
import Derived.Deep.Upon
import Derived.Laws.BytesString
import Derived.MapKept
import Derived.Laws.IdiomStrings
section
/- The value machine: a second reading of a function's code, over values that lie in no memory. -/
namespace Go.Proofs.Vm
open Go

/-- Runs a text that touches no world. -/
def pv {α : Type} (P : Program) : Sem α → Option α
  | .pure a => some a
  | .program k => pv P (k P)
  | _ => none

inductive CV where
  | v (x : Value)
  | arr (l : List (List CV))
  | cptr (cs : List CV)
  | fn (f : FuncId) (caps : List CV)
  | top

structure Pt where
  id : Nat
  i : Nat
  off : Nat
  tot : Nat

inductive Cell where
  | c (x : CV)
  | sl (id off n tot : Nat)
  | ptr (p : Pt)
  | fn (f : FuncId) (caps : List (CV ⊕ Pt))
  | mp (id : Nat)

inductive AV where
  | one (c : Cell)
  | agg (l : List Cell)
  | tup (l : List (Bool × List Cell))

/-- A closed value: it leads to nothing that may change. -/
inductive CA where
  | one (x : CV)
  | agg (l : List CV)
  | tup (l : List (Bool × List CV))

inductive Ent where
  | clo (l : List (List CV)) (fz : Bool)
  | opn (l : List (List Cell)) (fz : Bool)
  | mp (l : Nat × List (Value × List CV))

abbrev Hp := List Ent

def und : AV := .tup []

def AV.cells : AV → List Cell
  | .one c => [c]
  | .agg l => l
  | .tup _ => []

def CA.av : CA → AV
  | .one x => .one (.c x)
  | .agg l => .agg (l.map .c)
  | .tup l => .tup (l.map fun p => (p.1, p.2.map .c))

/-- A nil slice, where it lies in memory that is closed, is one without elements. -/
def nrm : Value → CV
  | .slice none 0 0 => .arr []
  | x => .v x

def Cell.sc : Cell → Option Value
  | .c (.v x) => some x
  | _ => none

def scs : List Cell → Option (List Value)
  | [] => some []
  | c :: r => match c.sc, scs r with
    | some x, some l => some (x :: l)
    | _, _ => none

def AV.sc : AV → Option Value
  | .one c => c.sc
  | .agg l => (scs l).map fun xs => .agg xs.toArray
  | .tup _ => none

def evo (env : Nat → AV) : Operand → Option AV
  | .tmp t => some (env t)
  | .const (.agg cs) => if cs.toList.all (·.oneCell') then some (.agg (cs.toList.map fun x => .c (nrm x))) else none
  | .const (.tuple _) => none
  | .const x => some (.one (.c (.v x)))
  | .func f => some (.one (.fn f []))
  | .global _ => none

def upd (env : Nat → AV) (k : Nat) (a : AV) : Nat → AV := fun j => if j = k then a else env j

def Ent.len : Ent → Nat
  | .clo l _ => l.length
  | .opn l _ => l.length
  | .mp _ => 0

def cellsAt (H : Hp) (p : Pt) : Option (List Cell) :=
  match H[p.id]? with
  | some (.opn l _) => if l.length = p.tot then (l[p.i]?).map (·.drop p.off) else none
  | some (.clo l _) => if l.length = p.tot then (l[p.i]?).map fun e => (e.drop p.off).map .c else none
  | _ => none

/-- The cells that lie where a pointer leads. -/
def behind (H : Hp) : AV → Option (List Cell)
  | .one (.ptr p) => cellsAt H p
  | .one (.c (.cptr cs)) => some (cs.map .c)
  | _ => none

def mapO {α β : Type} (f : α → Option β) : List α → Option (List β)
  | [] => some []
  | x :: r => match f x, mapO f r with
    | some y, some l => some (y :: l)
    | _, _ => none

/-- A cell as a closed one. -/
def fzc : Nat → Hp → Cell → Option CV
  | 0, _, _ => none
  | n + 1, H, c =>
    match c with
    | .c (.v x) => some (nrm x)
    | .c x => some x
    | .sl id o m tot =>
      match H[id]? with
      | some (.clo l _) => if l.length = tot then some (.arr ((l.drop o).take m)) else none
      | some (.opn l _) => if l.length = tot then (mapO (mapO (fzc n H)) ((l.drop o).take m)).map .arr else none
      | _ => none
    | .ptr p =>
      match cellsAt H p with
      | some cs => (mapO (fzc n H) cs).map .cptr
      | none => none
    | .fn f caps => (mapO (fun
      | .inl x => some x
      | .inr p => fzc n H (.ptr p)) caps).map (.fn f)
    | .mp _ => some .top

/-- What of the heap is given up by that. -/
def rch : Nat → Hp → Cell → List Nat
  | 0, _, _ => []
  | n + 1, H, c =>
    match c with
    | .sl id o m _ => id :: (match H[id]? with
      | some (.opn l _) => (((l.drop o).take m).map fun e => (e.map (rch n H)).flatten).flatten
      | _ => [])
    | .ptr p => p.id :: (match cellsAt H p with
      | some cs => (cs.map (rch n H)).flatten
      | none => [])
    | .fn _ caps => (caps.map fun
      | .inl _ => []
      | .inr p => rch n H (.ptr p)).flatten
    | _ => []

def fza (H : Hp) : AV → Option CA
  | .one c => (fzc 5 H c).map .one
  | .agg l => (mapO (fzc 5 H) l).map .agg
  | .tup l => (mapO (fun p => (mapO (fzc 5 H) p.2).map fun x => (p.1, x)) l).map .tup

def rcha (H : Hp) : AV → List Nat
  | .one c => rch 5 H c
  | .agg l => (l.map (rch 5 H)).flatten
  | .tup l => (l.map fun p => (p.2.map (rch 5 H)).flatten).flatten

def Ent.frz : Ent → Ent
  | .clo l _ => .clo l true
  | .opn l _ => .opn l true
  | .mp l => .mp l

def frzAll (H : Hp) (ms : List Nat) : Hp := ms.foldl (fun H id => H.modify id Ent.frz) H

end Go.Proofs.Vm
end

section
/- What lies in the library's tables that this seat's program reads: of each its block, and its bytes. -/
namespace Go.Proofs.Vm
def tbs : List (Nat × List Nat) := [(0, Lib.deBruijn64tab)]
end Go.Proofs.Vm
end

section
/- How the value machine's values lie in memory. -/
namespace Go.Proofs.Vm
open Go

inductive RC (I : Nat → Prop) (w : World) : CV → Value → Prop
  | v (x : Value) (h : x.oneCell' = true) : RC I w (.v x) x
  | arr (l : List (List CV)) (a : Option Addr) (cap sz : Nat) (f : Nat → Nat → Value) (hc : l.length ≤ cap) (hs : ∀ e ∈ l, e.length = sz)
      (ha : l ≠ [] → ∃ b o, a = some ⟨b, o, none⟩ ∧ I b ∧ ∀ i j, i < l.length → j < sz → w.cell? ⟨b, o + (i * sz + j), none⟩ = some (f i j))
      (hr : ∀ (i j : Nat) e x, l[i]? = some e → e[j]? = some x → RC I w x (f i j)) : RC I w (.arr l) (.slice a l.length cap)
  | cptr (cs : List CV) (b o : Nat) (f : Nat → Value) (hI : I b) (ha : ∀ j, j < cs.length → w.cell? ⟨b, o + j, none⟩ = some (f j))
      (hr : ∀ (j : Nat) x, cs[j]? = some x → RC I w x (f j)) : RC I w (.cptr cs) (.pointer (some ⟨b, o, none⟩))
  | fn (f : FuncId) (caps : List CV) (vs : List Value) (hl : caps.length = vs.length)
      (hr : ∀ (j : Nat) x y, caps[j]? = some x → vs[j]? = some y → RC I w x y) : RC I w (.fn f caps) (.func (.func f) #[] vs.toArray)
  | top (v : Value) (h : v.oneCell' = true) : RC I w .top v

theorem cell_of_heap {w w' : World} {b : Nat} (h : w'.heap[b]? = w.heap[b]?) (o : Nat) : w'.cell? ⟨b, o, none⟩ = w.cell? ⟨b, o, none⟩ := by
  simp [World.cell?, h]

theorem frozen_of_heap {w w' : World} {b : Nat} (h : w'.heap[b]? = w.heap[b]?) (o : Nat) : w'.frozen? ⟨b, o, none⟩ = w.frozen? ⟨b, o, none⟩ := by
  simp [World.frozen?, h]

theorem RC.mono {I I' : Nat → Prop} {w w' : World} (hI : ∀ b, I b → I' b) (hw : ∀ b, I b → w'.heap[b]? = w.heap[b]?) {x : CV} {v : Value} (h : RC I w x v) : RC I' w' x v := by
  induction h with
  | v x h => exact .v x h
  | arr l a cap sz f hc hs ha hr ih =>
    refine .arr l a cap sz f hc hs (fun hn => ?_) (fun i j e x he hx => ih i j e x he hx)
    obtain ⟨b, o, h1, h2, h3⟩ := ha hn
    exact ⟨b, o, h1, hI b h2, fun i j hi hj => by rw [cell_of_heap (hw b h2)]; exact h3 i j hi hj⟩
  | cptr cs b o f hb ha hr ih => exact .cptr cs b o f (hI b hb) (fun j hj => by rw [cell_of_heap (hw b hb)]; exact ha j hj) ih
  | fn f caps vs hl hr ih => exact .fn f caps vs hl ih
  | top v h => exact .top v h

theorem RC.one {I : Nat → Prop} {w : World} {x : CV} {v : Value} (h : RC I w x v) : v.oneCell' = true := by
  cases h <;> first | assumption | rfl

structure Sl where
  hd : Option Addr
  blk : Option Nat
  cap : Nat
  sz : Nat

/-- What lies beside memory is as it was. -/
def Stl (w w' : World) : Prop := (w'.os = w.os ∧ w'.tape = w.tape) ∧ w'.output = w.output ∧ w.drawn ≤ w'.drawn

theorem Stl.refl (w : World) : Stl w w := ⟨⟨rfl, rfl⟩, rfl, Nat.le_refl _⟩
theorem Stl.trans {a b c : World} (h : Stl a b) (k : Stl b c) : Stl a c := ⟨⟨k.1.1.trans h.1.1, k.1.2.trans h.1.2⟩, k.2.1.trans h.2.1, Nat.le_trans h.2.2 k.2.2⟩

/-- The library's tables lie as told ahead of any run ('tbs': blocks and what lies in them). -/
def Tabs (n : Nat) (w : World) : Prop := ∀ p ∈ tbs, p.1 < n ∧ ∀ j, j < p.2.length → w.cell? ⟨p.1, j, none⟩ = some (.int .u8 (p.2.getD j 0))
theorem Tabs.mono {n n' : Nat} {w w' : World} (h : Tabs n w) (hb : ∀ b, b < n → w'.heap[b]? = w.heap[b]?) (hn : n ≤ n') : Tabs n' w' := fun p hp => by
  obtain ⟨h1, h2⟩ := h p hp
  refine ⟨Nat.lt_of_lt_of_le h1 hn, fun j hj => ?_⟩
  rw [cell_of_heap (hb _ h1)]
  exact h2 j hj

/-- The state in which the memory is read. -/
structure Cx where
  base : Nat
  w0 : World
  D : Nat → Prop
  H : Hp
  σ : Nat → Sl
  I : Nat → Prop
  w : World

def RPt (X : Cx) (p : Pt) (v : Value) : Prop :=
  v.oneCell' = true ∧ X.D p.id ∧ ∃ e, X.H[p.id]? = some e ∧ p.tot ≤ e.len ∧
    (e.len = p.tot → ∃ b, (X.σ p.id).blk = some b ∧ v = .pointer (some ⟨b, p.i * (X.σ p.id).sz + p.off, none⟩))

def RCap (X : Cx) : CV ⊕ Pt → Value → Prop
  | .inl x, v => RC X.I X.w x v
  | .inr p, v => RPt X p v

def RCell (X : Cx) : Cell → Value → Prop
  | .c x, v => RC X.I X.w x v
  | .sl id o n tot, v => v.oneCell' = true ∧ X.D id ∧ ∃ e, X.H[id]? = some e ∧ o + n ≤ tot ∧ tot ≤ e.len ∧
      (e.len = tot → ∃ ad cap, v = .slice ad n cap ∧ n ≤ cap ∧ (n ≠ 0 → ∃ b, (X.σ id).blk = some b ∧ ad = some ⟨b, o * (X.σ id).sz, none⟩) ∧
        (o = 0 → n = tot → ad = (X.σ id).hd ∧ cap = (X.σ id).cap))
  | .ptr p, v => RPt X p v
  | .fn f caps, v => ∃ vs : List Value, v = .func (.func f) #[] vs.toArray ∧ caps.length = vs.length ∧ ∀ (j : Nat) x y, caps[j]? = some x → vs[j]? = some y → RCap X x y
  | .mp id, v => X.D id ∧ ∃ l b, X.H[id]? = some (.mp l) ∧ (X.σ id).blk = some b ∧ v = .map (some b)

def RCells (X : Cx) (l : List Cell) (vs : List Value) : Prop :=
  l.length = vs.length ∧ ∀ (j : Nat) c y, l[j]? = some c → vs[j]? = some y → RCell X c y

def RP (X : Cx) (p : Bool × List Cell) (v : Value) : Prop :=
  if p.1 then ∃ vs : List Value, v = .agg vs.toArray ∧ RCells X p.2 vs else ∃ c, p.2 = [c] ∧ RCell X c v

def RA (X : Cx) : AV → Value → Prop
  | .one c, v => RCell X c v
  | .agg l, v => ∃ vs : List Value, v = .agg vs.toArray ∧ RCells X l vs
  | .tup l, v => ∃ vs : List Value, v = .tuple vs.toArray ∧ l.length = vs.length ∧ ∀ (j : Nat) p y, l[j]? = some p → vs[j]? = some y → RP X p y

def Row (X : Cx) (s : Sl) (n : Nat) (fz : Bool) (ok : Nat → Nat → Value → Prop) : Prop :=
  (n = 0 ∧ s.blk = none ∧ s.cap = 0) ∨
  ∃ b c ty fr, s.blk = some b ∧ s.hd = some ⟨b, 0, none⟩ ∧ X.w.heap[b]? = some (.cells c ty fr) ∧ (∀ o, o < c.size → X.w.frozen? ⟨b, o, none⟩ = false) ∧
    c.size = s.cap * s.sz ∧ (0 < n ∧ n ≤ s.cap) ∧ X.base ≤ b ∧ (fz = true → X.I b) ∧ (fz = false → ¬ X.I b) ∧
    ∀ i j, i < n → j < s.sz → ∃ v, c[i * s.sz + j]? = some v ∧ ok i j v

def okC (X : Cx) (l : List (List CV)) (i j : Nat) (v : Value) : Prop := ∃ e x, l[i]? = some e ∧ e[j]? = some x ∧ RC X.I X.w x v
def okO (X : Cx) (l : List (List Cell)) (i j : Nat) (v : Value) : Prop := ∃ e x, l[i]? = some e ∧ e[j]? = some x ∧ RCell X x v

def REnt (X : Cx) (s : Sl) : Ent → Prop
  | .clo l fz => (∀ e ∈ l, e.length = s.sz) ∧ Row X s l.length fz (okC X l)
  | .opn l fz => (∀ e ∈ l, e.length = s.sz) ∧ Row X s l.length fz (okO X l)
  | .mp l => ∃ b es ck, s.blk = some b ∧ X.w.heap[b]? = some (.map es ck) ∧ X.base ≤ b ∧ ¬ X.I b ∧ (l.2.length = es.size ∧ ck = l.1) ∧
      ∀ (j : Nat) p y, l.2[j]? = some p → es[j]? = some y → p.1 = y.key ∧ ∃ x, p.2 = [x, .v (.int .i64 y.born)] ∧ RC X.I X.w x y.val

structure SR (X : Cx) : Prop where
  ent : ∀ id e, X.D id → X.H[id]? = some e → REnt X (X.σ id) e
  inj : ∀ i j b, X.D i → X.D j → i ≠ j → (X.σ i).blk = some b → (X.σ j).blk = some b → False
  size : X.base ≤ X.w.heap.size
  old : ∀ b, b < X.base → X.w.heap[b]? = X.w0.heap[b]?
  imm : ∀ b, X.I b → b < X.w.heap.size
  kp : Stl X.w0 X.w
  tab : Tabs X.base X.w0

theorem SR.tabs {X : Cx} (S : SR X) : Tabs X.w.heap.size X.w := S.tab.mono S.old S.size

/-- From one state to a later one in which all that was there stays as it was. -/
structure Ext (X Y : Cx) : Prop where
  base : Y.base = X.base
  w0 : Y.w0 = X.w0
  D : ∀ id, X.D id → Y.D id
  H : Y.H = X.H
  σ : ∀ id, X.D id → Y.σ id = X.σ id
  I : ∀ b, X.I b → Y.I b
  sz : X.w.heap.size ≤ Y.w.heap.size
  hp : ∀ b, b < X.w.heap.size → Y.w.heap[b]? = X.w.heap[b]?
  kp : Stl X.w Y.w

theorem Ext.refl (X : Cx) : Ext X X := ⟨rfl, rfl, fun _ h => h, rfl, fun _ _ => rfl, fun _ h => h, Nat.le_refl _, fun _ _ => rfl, .refl _⟩

theorem Ext.trans {X Y Z : Cx} (a : Ext X Y) (b : Ext Y Z) : Ext X Z :=
  ⟨b.base.trans a.base, b.w0.trans a.w0, fun id h => b.D id (a.D id h), b.H.trans a.H, fun id h => (b.σ id (a.D id h)).trans (a.σ id h),
    fun x h => b.I x (a.I x h), Nat.le_trans a.sz b.sz, fun x h => (b.hp x (Nat.lt_of_lt_of_le h a.sz)).trans (a.hp x h), a.kp.trans b.kp⟩

section
variable {X Y : Cx} (E : Ext X Y) (S : SR X)
include E S

theorem Ext.rc {x : CV} {v : Value} (h : RC X.I X.w x v) : RC Y.I Y.w x v := h.mono E.I fun b hb => E.hp b (S.imm b hb)

omit S in
theorem Ext.rpt {p : Pt} {v : Value} (h : RPt X p v) : RPt Y p v := by
  obtain ⟨h0, h1, e, h2, h3, h4⟩ := h
  refine ⟨h0, E.D _ h1, e, by rw [E.H]; exact h2, h3, fun he => ?_⟩
  rw [E.σ _ h1]
  exact h4 he

theorem Ext.rcap {x : CV ⊕ Pt} {v : Value} (h : RCap X x v) : RCap Y x v := by
  cases x with
  | inl x => exact E.rc S h
  | inr p => exact E.rpt h

theorem Ext.rcell {c : Cell} {v : Value} (h : RCell X c v) : RCell Y c v := by
  cases c with
  | c x => exact E.rc S h
  | sl id o n tot =>
    obtain ⟨h0, h1, e, h2, h3⟩ := h
    refine ⟨h0, E.D _ h1, e, by rw [E.H]; exact h2, ?_⟩
    rw [E.σ _ h1]
    exact h3
  | ptr p => exact E.rpt h
  | fn f caps =>
    obtain ⟨vs, h1, h2, h3⟩ := h
    exact ⟨vs, h1, h2, fun j x y hx hy => E.rcap S (h3 j x y hx hy)⟩
  | mp id =>
    obtain ⟨h1, l, b, h2, h3⟩ := h
    refine ⟨E.D _ h1, l, b, by rw [E.H]; exact h2, ?_⟩
    rw [E.σ _ h1]
    exact h3

theorem Ext.rcells {l : List Cell} {vs : List Value} (h : RCells X l vs) : RCells Y l vs :=
  ⟨h.1, fun j c y hc hy => E.rcell S (h.2 j c y hc hy)⟩

theorem Ext.rp {p : Bool × List Cell} {v : Value} (h : RP X p v) : RP Y p v := by
  unfold RP at *
  split
  · rename_i hp
    rw [if_pos hp] at h
    obtain ⟨vs, h1, h2⟩ := h
    exact ⟨vs, h1, E.rcells S h2⟩
  · rename_i hp
    rw [if_neg hp] at h
    obtain ⟨c, h1, h2⟩ := h
    exact ⟨c, h1, E.rcell S h2⟩

theorem Ext.ra {a : AV} {v : Value} (h : RA X a v) : RA Y a v := by
  cases a with
  | one c => exact E.rcell S h
  | agg l =>
    obtain ⟨vs, h1, h2⟩ := h
    exact ⟨vs, h1, E.rcells S h2⟩
  | tup l =>
    obtain ⟨vs, h1, h2, h3⟩ := h
    exact ⟨vs, h1, h2, fun j p y hp hy => E.rp S (h3 j p y hp hy)⟩

/-- An entry stays as it was, if its block does not come under what may not change. -/
theorem Ext.rent {s : Sl} {e : Ent} (hI : ∀ b, s.blk = some b → Y.I b → X.I b) (h : REnt X s e) : REnt Y s e := by
  have row : ∀ {n : Nat} {fz : Bool} {ok ok' : Nat → Nat → Value → Prop}, (∀ i j v, ok i j v → ok' i j v) → Row X s n fz ok → Row Y s n fz ok' := by
    intro n fz ok ok' hok hrow
    rcases hrow with h | ⟨b, c, ty, fr, h1, h2, h3, h4, h5, h6, h7, h8, h9, h10⟩
    · exact .inl h
    · have hlt : b < X.w.heap.size := by
        rcases Nat.lt_or_ge b X.w.heap.size with h | h
        · exact h
        · rw [Array.getElem?_eq_none h] at h3; cases h3
      have hh := E.hp b hlt
      refine .inr ⟨b, c, ty, fr, h1, h2, hh.trans h3, fun o ho => ?_, h5, h6, by rw [E.base]; exact h7, fun hf => E.I b (h8 hf), fun hf hb => h9 hf (hI b h1 hb), fun i j hi hj => ?_⟩
      · rw [frozen_of_heap hh]; exact h4 o ho
      · obtain ⟨v, hv, ho⟩ := h10 i j hi hj
        exact ⟨v, hv, hok i j v ho⟩
  cases e with
  | clo l fz => exact ⟨h.1, row (fun i j v ⟨e, x, a, b, c⟩ => ⟨e, x, a, b, E.rc S c⟩) h.2⟩
  | opn l fz => exact ⟨h.1, row (fun i j v ⟨e, x, a, b, c⟩ => ⟨e, x, a, b, E.rcell S c⟩) h.2⟩
  | mp l =>
    obtain ⟨b, es, ck, h1, h2, h3, h4, h5, h6⟩ := h
    have hlt : b < X.w.heap.size := by
      rcases Nat.lt_or_ge b X.w.heap.size with h | h
      · exact h
      · rw [Array.getElem?_eq_none h] at h2; cases h2
    refine ⟨b, es, ck, h1, (E.hp b hlt).trans h2, by rw [E.base]; exact h3, fun hb => h4 (hI b h1 hb), h5, fun j p y hp hy => ?_⟩
    obtain ⟨hk, x, a1, a2⟩ := h6 j p y hp hy
    exact ⟨hk, x, a1, E.rc S a2⟩
end

theorem Row.lt {X : Cx} {s : Sl} {n : Nat} {fz : Bool} {ok : Nat → Nat → Value → Prop} (h : Row X s n fz ok) {b : Nat} (hb : s.blk = some b) : b < X.w.heap.size ∧ X.base ≤ b := by
  rcases h with ⟨_, h, _⟩ | ⟨b', c, ty, fr, h1, h2, h3, _, _, _, h7, _⟩
  · rw [h] at hb; cases hb
  · rw [h1] at hb; cases hb
    refine ⟨?_, h7⟩
    rcases Nat.lt_or_ge b X.w.heap.size with h | h
    · exact h
    · rw [Array.getElem?_eq_none h] at h3; cases h3

theorem REnt.lt {X : Cx} {s : Sl} {e : Ent} (h : REnt X s e) {b : Nat} (hb : s.blk = some b) : b < X.w.heap.size ∧ X.base ≤ b := by
  cases e with
  | clo l fz => exact h.2.lt hb
  | opn l fz => exact h.2.lt hb
  | mp l =>
    obtain ⟨b', es, ck, h1, h2, h3, _⟩ := h
    rw [h1] at hb; cases hb
    refine ⟨?_, h3⟩
    rcases Nat.lt_or_ge b X.w.heap.size with h | h
    · exact h
    · rw [Array.getElem?_eq_none h] at h2; cases h2

/-- The state stays whole where nothing but new memory comes, and what comes to be unchangeable is new. -/
theorem SR.ext {X Y : Cx} (S : SR X) (E : Ext X Y) (hD : ∀ id, Y.D id → X.D id) (hI : ∀ b, Y.I b → X.I b ∨ X.w.heap.size ≤ b) (hlt : ∀ b, Y.I b → b < Y.w.heap.size) : SR Y where
  ent id e hd he := by
    rw [E.H] at he
    have hd' := hD id hd
    have h := S.ent id e hd' he
    rw [E.σ id hd']
    refine E.rent S (fun b hb hy => ?_) h
    rcases hI b hy with h' | h'
    · exact h'
    · exact absurd (h.lt hb).1 (by omega)
  inj i j b hi hj hne h1 h2 := by
    rw [E.σ _ (hD _ hi)] at h1
    rw [E.σ _ (hD _ hj)] at h2
    exact S.inj i j b (hD _ hi) (hD _ hj) hne h1 h2
  size := by rw [E.base]; exact Nat.le_trans S.size E.sz
  old b hb := by
    rw [E.base] at hb
    rw [E.w0, E.hp b (Nat.lt_of_lt_of_le hb S.size)]
    exact S.old b hb
  imm := hlt
  kp := by rw [E.w0]; exact S.kp.trans E.kp
  tab := by rw [E.base, E.w0]; exact S.tab

end Go.Proofs.Vm
end

section
/- The value machine's operations that only read or make memory. -/
namespace Go.Proofs.Vm
open Go

abbrev RR := Option (AV × List Ent × List Nat)

def qa (a : AV) : RR := some (a, [], [])

def one? (x : Value) : RR := if x.oneCell' then qa (.one (.c (.v x))) else none

def ofPv : Option Value → RR
  | some x => one? x
  | none => none

def isNil : Operand → Bool
  | .const (.slice none 0 0) => true
  | _ => false

def vmove (ρ : Operand → Option AV) (nid : Nat) (x : Operand) : RR :=
  if isNil x then some (.one (.sl nid 0 0 0), [.clo [] false], []) else match ρ x with
    | some a => qa a
    | none => none

def vpick (ρ : Operand → Option AV) (c a b : Operand) : RR :=
  match ρ c with
  | some (.one (.c (.v (.bool t)))) => match (if t then ρ a else ρ b) with
    | some a => qa a
    | none => none
  | _ => none

/-- The cells of a new variable: a nil slice there is one that may grow. -/
def ownz : Nat → List Value → List Cell × List Ent
  | _, [] => ([], [])
  | n, x :: r =>
    match x with
    | .slice none 0 0 => (.sl n 0 0 0 :: (ownz (n + 1) r).1, .clo [] false :: (ownz (n + 1) r).2)
    | x => (.c (.v x) :: (ownz n r).1, (ownz n r).2)

def valloc (P : Program) (nid : Nat) (t : TypeId) : RR :=
  match pv P (zeroValue t) with
  | some z => if z.cells.toList.all (·.oneCell') then
      let r := ownz (nid + 1) z.cells.toList
      some (.one (.ptr ⟨nid, 0, 0, 1⟩), .opn [r.1] false :: r.2, []) else none
  | none => none

def vbox (nid : Nat) (a : AV) : RR :=
  match a with
  | .tup _ => none
  | a => some (.one (.ptr ⟨nid, 0, 0, 1⟩), [.opn [a.cells] false], [])

def vload (P : Program) (H : Hp) (t : TypeId) (a : AV) : RR :=
  match behind H a with
  | some cs => match pv P (isAgg t) with
    | some true => match pv P (sizeOf t) with
      | some n => if n ≤ cs.length then qa (.agg (cs.take n)) else none
      | none => none
    | some false => match cs with
      | c :: _ => qa (.one c)
      | [] => none
    | none => none
  | none => none

def fieldOf (P : Program) (s : TypeId) (f : Nat) : Option Field :=
  match pv P (underlying s) with
  | some (.struct fields) => fields[f]?
  | _ => none

def vfield (P : Program) (s : TypeId) (f : Nat) (a : AV) : RR :=
  match fieldOf P s f, a with
  | some f, .agg l => match pv P (isAgg f.type) with
    | some true => match pv P (sizeOf f.type) with
      | some n => if f.offset + n ≤ l.length then qa (.agg ((l.drop f.offset).take n)) else none
      | none => none
    | some false => match l[f.offset]? with
      | some c => qa (.one c)
      | none => none
    | none => none
  | _, _ => none

def shift (H : Hp) (a : AV) (k : Nat) : RR :=
  match a with
  | .one (.ptr p) => match H[p.id]? with
    | some e => if e.len = p.tot then qa (.one (.ptr { p with off := p.off + k })) else none
    | none => none
  | .one (.c (.cptr cs)) => qa (.one (.c (.cptr (cs.drop k))))
  | _ => none

def vfieldAddr (P : Program) (H : Hp) (s : TypeId) (f : Nat) (a : AV) : RR :=
  match fieldOf P s f with
  | some f => match pv P (sizeOf f.type) with
    | some (_ + 1) => shift H a f.offset
    | _ => none
  | none => none

def elemOfSlice (P : Program) (t : TypeId) : Option TypeId :=
  match pv P (underlying t) with
  | some (.slice e) => some e
  | _ => none

/-- The length of an element that an own slice has at a place. -/
def elAt (H : Hp) (id tot i : Nat) : Option Nat :=
  match H[id]? with
  | some (.clo l _) => if l.length = tot then (l[i]?).map (·.length) else none
  | some (.opn l _) => if l.length = tot then (l[i]?).map (·.length) else none
  | _ => none

def vindexAddr (P : Program) (H : Hp) (t : TypeId) (a ix : AV) : RR :=
  match elemOfSlice P t with
  | some e => match pv P (sizeOf e), ix with
    | some sz, .one (.c (.v (.int _ i))) => if 0 ≤ i then
        match a with
        | .one (.sl id o n tot) => if i.toNat < n then (if elAt H id tot (o + i.toNat) = some sz then qa (.one (.ptr ⟨id, o + i.toNat, 0, tot⟩)) else none) else none
        | .one (.c (.arr l)) => match l[i.toNat]? with
          | some e => if e.length = sz then qa (.one (.c (.cptr e))) else none
          | none => none
        | _ => none
      else none
    | _, _ => none
  | none => none

def optInt : Option AV → Option (Option Int)
  | none => some none
  | some (.one (.c (.v (.int _ i)))) => some (some i)
  | _ => none

def optSc : Option AV → Option (Option Value)
  | none => some none
  | some a => (a.sc).map some

def lenIs (H : Hp) (id tot : Nat) : Bool :=
  match H[id]? with
  | some e => e.len == tot
  | none => false

def vslice (P : Program) (H : Hp) (nid : Nat) (t : TypeId) (a : AV) (lo hi mx : Option AV) : RR :=
  match a with
  | .one (.sl id o n tot) => match elemOfSlice P t, optInt lo, optInt hi, mx with
    | some e, some l, some h, none => match pv P (sizeOf e) with
      | some sz =>
        let l := l.getD 0
        let h := h.getD n
        if lenIs H id tot = true ∧ 0 ≤ l ∧ l ≤ h ∧ h ≤ n ∧ (l = h ∨ elAt H id tot (o + l.toNat) = some sz) then qa (.one (.sl id (o + l.toNat) (h.toNat - l.toNat) tot)) else none
      | none => none
    | _, _, _, _ => none
  | .one (.c (.arr xs)) => match elemOfSlice P t, optInt lo, optInt hi, mx with
    | some e, some l, some h, none => match pv P (sizeOf e) with
      | some sz =>
        let l := l.getD 0
        let h := h.getD xs.length
        if 0 ≤ l ∧ l ≤ h ∧ h ≤ xs.length ∧ (∀ e ∈ xs, e.length = sz) then qa (.one (.c (.arr ((xs.drop l.toNat).take (h.toNat - l.toNat))))) else none
      | none => none
    | some e, some none, some (some 0), some (.one (.c (.v (.int _ 0)))) => match pv P (sizeOf e) with
      | some _ => some (.one (.sl nid 0 0 0), [.clo [] false], [])
      | none => none
    | _, _, _, _ => none
  | a => match a.sc, optSc lo, optSc hi, optSc mx with
    | some x, some l, some h, some m => ofPv (pv P (Instr.sliceAt t x l h m))
    | _, _, _, _ => none

def keyEq : Value → Value → Option Bool
  | .int k a, .int k' b => if k = k' then some (a == b) else none
  | .string a, .string b => some (a == b)
  | _, _ => none

/-- Where a key stands. -/
def findM (k : Value) : List Value → Option (Option Nat)
  | [] => some none
  | e :: es => match keyEq k e with
    | some true => some (some 0)
    | some false => (findM k es).map (·.map (· + 1))
    | none => none

def kindOk : TypeDesc → Value → Bool
  | .string, .string _ => true
  | .int _, .int _ _ => true
  | _, _ => false

/-- A map's type: its keys' kind, and its elements' zero. -/
def mapTy (P : Program) (t : TypeId) : Option (TypeDesc × Value) :=
  match pv P (underlying t) with
  | some (.map key elem) => match pv P (underlying key), pv P (zeroValue elem) with
    | some kd, some z => if z.oneCell' then some (kd, z) else none
    | _, _ => none
  | _ => none

def isMapT (P : Program) (t : TypeId) : Bool :=
  match pv P (underlying t) with
  | some (.map _ _) => true
  | _ => false

def mapAt (H : Hp) : AV → Option (Nat × Nat × List (Value × List CV))
  | .one (.mp id) => match H[id]? with
    | some (.mp l) => some (id, l)
    | _ => none
  | _ => none

def okPair (cok : Bool) (x : CV) (b : Bool) : AV := if cok then .tup [(false, [.c x]), (false, [.c (.v (.bool b))])] else .one (.c x)

def vlookup (P : Program) (H : Hp) (t : TypeId) (a b : AV) (cok : Bool) : RR :=
  match mapAt H a, b.sc, mapTy P t with
  | some (_, l), some k, some (kd, z) => if kindOk kd k then match findM k (l.2.map (·.1)) with
      | some (some j) => match l.2[j]? with
        | some (_, [x, _]) => qa (okPair cok x true)
        | _ => none
      | some none => qa (okPair cok (.v z) false)
      | none => none
    else none
  | _, _, _ => none

def vlen (P : Program) (H : Hp) (at_ : Array TypeId) (ty : TypeId) (a : AV) : RR :=
  match at_[0]? with
  | some t => match a with
    | .one (.sl id _ n tot) => match elemOfSlice P t with
      | some _ => if lenIs H id tot = true then one? (.int .i64 n) else none
      | none => none
    | .one (.c (.arr l)) => match elemOfSlice P t with
      | some _ => one? (.int .i64 l.length)
      | none => none
    | .one (.mp id) => match mapAt H (.one (.mp id)) with
      | some (_, l) => if isMapT P t = true then one? (.int .i64 l.2.length) else none
      | none => none
    | a => match a.sc with
      | some x => ofPv (pv P (Builtin.len_ at_ ty #[x]))
      | none => none
  | none => none

def isPtr : AV → Bool
  | .one (.ptr _) => true
  | .one (.c (.cptr _)) => true
  | _ => false

def fresh (H : Hp) : AV → Bool
  | .one (.ptr p) => lenIs H p.id p.tot
  | _ => true

def isNilp : AV → Bool
  | .one (.c (.v (.pointer none))) => true
  | _ => false

def vbin0 (P : Program) (H : Hp) (op : BinOp) (t : TypeId) (x y : Operand) (a b : AV) : RR :=
  if (isPtr a && fresh H a && isNilp b) || (isNilp a && (isPtr b && fresh H b)) then
    match pv P (underlying t), op with
    | some (.pointer _), .eql => one? (.bool false)
    | some (.pointer _), .neq => one? (.bool true)
    | _, _ => none
  else match a.sc, b.sc with
    | some u, some v => ofPv (pv P (do eqGuard op t x y u v; binOp op t u v))
    | _, _ => none

def neSl : AV → Bool
  | .one (.c (.arr (_ :: _))) => true
  | .one (.sl _ _ n _) => decide (n ≠ 0)
  | _ => false

/-- An own slice has the length that it had. -/
def okSl (H : Hp) : AV → Bool
  | .one (.sl id _ _ tot) => lenIs H id tot
  | _ => true

def isNils : AV → Bool
  | .one (.c (.v (.slice none 0 0))) => true
  | _ => false

/-- The same; a slice that is none beside one that is not. -/
def vbin (P : Program) (H : Hp) (op : BinOp) (t : TypeId) (x y : Operand) (a b : AV) : RR :=
  if (neSl a && isNils b) = true then
    match okSl H a, pv P (underlying t), op with
    | true, some (.slice _), .eql => one? (.bool false)
    | true, some (.slice _), .neq => one? (.bool true)
    | _, _, _ => none
  else vbin0 P H op t x y a b

def zcells (z : Value) : List CV := z.cells.toList.map nrm

def small (b n : Nat) : Bool := b * n ≤ 140737488355328

def isSliceT (P : Program) (t : TypeId) : Bool :=
  match pv P (underlying t) with
  | some (.slice _) => true
  | _ => false

def vmakeSlice (P : Program) (nest : Bool) (nid : Nat) (t : TypeId) (l c : AV) : RR :=
  match elemOfSlice P t with
  | some e => match pv P (typeInfo e), pv P (zeroValue e), l, c with
    | some i, some z, .one (.c (.v (.int _ l))), .one (.c (.v (.int _ c))) =>
      if 0 ≤ l ∧ l = c ∧ small i.bytes c.toNat = true ∧ c ≤ 4611686018427387904 ∧ z.cells.size = i.size ∧ z.cells.toList.all (·.oneCell') = true then
        some (.one (.sl nid 0 l.toNat l.toNat), [if nest && isSliceT P e && decide (l.toNat ≠ 0) then .opn (List.replicate l.toNat ((zcells z).map .c)) false else .clo (List.replicate l.toNat (zcells z)) false], []) else none
    | _, _, _, _ => none
  | none => none

/-- Rows of strings that may grow: each an own one, without elements yet. -/
def vmakeRows (P : Program) (nid : Nat) (t : TypeId) (l c : AV) : RR :=
  match elemOfSlice P t with
  | some e => match pv P (typeInfo e), pv P (zeroValue e), l, c with
    | some i, some (.slice none 0 0), .one (.c (.v (.int _ l))), .one (.c (.v (.int _ c))) =>
      if 0 < l ∧ l = c ∧ small i.bytes c.toNat = true ∧ c ≤ 4611686018427387904 ∧ i.size = 1 then
        some (.one (.sl nid 0 l.toNat l.toNat), .opn ((ownz (nid + 1) (List.replicate l.toNat (.slice none 0 0))).1.map fun c => [c]) false :: (ownz (nid + 1) (List.replicate l.toNat (.slice none 0 0))).2, []) else none
    | _, _, _, _ => none
  | none => none
def strRowsT (P : Program) (t : TypeId) : Bool :=
  match elemOfSlice P t with
  | some e => match elemOfSlice P e with
    | some u => match pv P (zeroValue u) with
      | some (.string _) => true
      | _ => false
    | none => false
  | none => false
def posL : AV → Bool
  | .one (.c (.v (.int _ l))) => decide (0 < l)
  | _ => false
def vmakeN (P : Program) (nest : Bool) (nid : Nat) (t : TypeId) (l c : AV) : RR := if (nest && posL l && strRowsT P t) = true then vmakeRows P nid t l c else vmakeSlice P nest nid t l c

def bytesOf (s : ByteArray) : List (List CV) := s.data.toList.map fun b => [.v (.int .u8 b.toNat)]

def byteList : List Cell → Option ByteArray
  | cs => (cs.foldl (fun s c => match s, c with
    | some s, .c (.v (.int .u8 n)) => some (s.push (UInt8.ofNat n.toNat))
    | _, _ => none) (some ByteArray.empty))

def rowCells (H : Hp) (a : AV) : Option (List (List CV)) :=
  match a with
  | .one (.sl id o n tot) => match H[id]? with
    | some (.clo l _) => if l.length = tot then some ((l.drop o).take n) else none
    | _ => none
  | .one (.c (.arr l)) => some l
  | _ => none

def vconvert (P : Program) (src dst : TypeId) (a : AV) : RR :=
  match a with
  | .one (.c (.v x)) => ofPv (pv P (convert src dst x))
  | _ => none

def vextract (a : AV) (i : Nat) : RR :=
  match a with
  | .tup l => match l[i]? with
    | some (true, cs) => qa (.agg cs)
    | some (false, [c]) => qa (.one c)
    | _ => none
  | _ => none

def capOf : AV → Option (CV ⊕ Pt)
  | .one (.ptr p) => some (.inr p)
  | .one (.c x) => some (.inl x)
  | _ => none

def vmakeFunc (fn : Fn) (first : List Operand) (caps : List AV) : RR :=
  match fn, first with
  | .func f, [] => match mapO capOf caps with
    | some cs => qa (.one (.fn f cs))
    | none => none
  | _, _ => none

/-- Cells written into a row. -/
def wr {α : Type} : List α → Nat → List α → List α
  | l, _, [] => l
  | l, o, x :: r => wr (l.set o x) (o + 1) r

/-- A struct's parts, put into its cells. -/
def vfill {α : Type} (place : Nat → Option (Nat × Nat)) : List α → List (Nat × List α) → Option (List α)
  | cells, [] => some cells
  | cells, (i, v) :: r =>
    match place i with
    | some (off, sz) => if v.length = sz ∧ off + sz ≤ cells.length then vfill place (wr cells off v) r else none
    | none => none

def cellsOf? : AV → Option (List Cell)
  | .one c => some [c]
  | .agg l => some l
  | .tup _ => none

def partsOf (ρ : Operand → Option AV) : List (Nat × Operand) → Option (List (Nat × List Cell))
  | [] => some []
  | (i, x) :: r =>
    match ρ x, partsOf ρ r with
    | some a, some l => match cellsOf? a with
      | some cs => some ((i, cs) :: l)
      | none => none
    | _, _ => none

def placesOf (P : Program) : List Field → Option (List (Nat × Nat))
  | [] => some []
  | f :: r =>
    match pv P (sizeOf f.type), placesOf P r with
    | some n, some l => some ((f.offset, n) :: l)
    | _, _ => none

def vbuild (P : Program) (nid : Nat) (ρ : Operand → Option AV) (t : TypeId) (parts : List (Nat × Operand)) : RR :=
  match pv P (zeroValue t), pv P (underlying t), partsOf ρ parts with
  | some z, some (.struct fields), some ps => match placesOf P fields.toList with
    | some pl => if z.cells.toList.all (·.oneCell') then
        let r := ownz nid z.cells.toList
        match vfill (pl[·]?) r.1 ps with
        | some cells => some (.agg cells, r.2, [])
        | none => none
      else none
    | none => none
  | _, _, _ => none

/-- The parts of a slice literal, each given up. -/
def fzParts (H : Hp) : List (Nat × List Cell) → Option (List (Nat × List CV))
  | [] => some []
  | (i, cs) :: r =>
    match mapO (fzc 5 H) cs, fzParts H r with
    | some x, some l => some ((i, x) :: l)
    | _, _ => none

def setAll (l : List (List CV)) : List (Nat × List CV) → List (List CV)
  | [] => l
  | (i, x) :: r => setAll (l.set i x) r

def rchParts (H : Hp) (ps : List (Nat × List Cell)) : List Nat := (ps.map fun p => (p.2.map (rch 5 H)).flatten).flatten

def vbuildSlice1 (P : Program) (H : Hp) (nid : Nat) (ρ : Operand → Option AV) (t : TypeId) (len : Nat) (parts : List (Nat × Operand)) : RR :=
  match elemOfSlice P t, partsOf ρ parts with
  | some e, some ps => match pv P (typeInfo e), pv P (zeroValue e), fzParts H ps with
    | some i, some z, some qs =>
      if len * i.size ≤ 16777216 ∧ len * i.size ≠ 0 ∧ z.cells.size = i.size ∧ z.cells.toList.all (·.oneCell') = true ∧ qs.all (fun p => p.1 < len && p.2.length == i.size) = true then
        some (.one (.sl nid 0 len len), [.clo (setAll (List.replicate len (zcells z)) qs) false], rchParts H ps) else none
    | _, _, _ => none
  | _, _ => none

/-- The same; of none an empty one. -/
def vbuildSlice (P : Program) (H : Hp) (nid : Nat) (ρ : Operand → Option AV) (t : TypeId) (len : Nat) (parts : List (Nat × Operand)) : RR :=
  if len = 0 ∧ parts.isEmpty = true then
    match elemOfSlice P t with
    | some e => match pv P (typeInfo e) with
      | some _ => some (.one (.sl nid 0 0 0), [.clo [] false], [])
      | none => none
    | none => none
  else vbuildSlice1 P H nid ρ t len parts

/-- Are all parts closed? -/
def clParts (H : Hp) (ρ : Operand → Option AV) (parts : List (Nat × Operand)) : Bool := match partsOf ρ parts with
  | some ps => (fzParts H ps).isSome && (rchParts H ps).isEmpty
  | none => false
/-- Of closed parts, a closed one. -/
def vbuildC (P : Program) (H : Hp) (ρ : Operand → Option AV) (t : TypeId) (len : Nat) (parts : List (Nat × Operand)) : RR :=
  match elemOfSlice P t, partsOf ρ parts with
  | some e, some ps => match pv P (typeInfo e), pv P (zeroValue e), fzParts H ps with
    | some i, some z, some qs =>
      if len * i.size ≤ 16777216 ∧ len * i.size ≠ 0 ∧ z.cells.size = i.size ∧ z.cells.toList.all (·.oneCell') = true ∧ qs.all (fun p => p.1 < len && p.2.length == i.size) = true then
        some (.one (.c (.arr (setAll (List.replicate len (zcells z)) qs))), [], []) else none
    | _, _, _ => none
  | _, _ => none
def vbuildT (P : Program) (cb : Bool) (H : Hp) (nid : Nat) (ρ : Operand → Option AV) (t : TypeId) (len : Nat) (parts : List (Nat × Operand)) : RR :=
  if cb = true ∧ clParts H ρ parts = true then vbuildC P H ρ t len parts else vbuildSlice P H nid ρ t len parts
@[simp] theorem vbuildT_no {P : Program} {H : Hp} {nid : Nat} {ρ : Operand → Option AV} {t : TypeId} {len : Nat} {parts : List (Nat × Operand)} : vbuildT P false H nid ρ t len parts = vbuildSlice P H nid ρ t len parts := by
  unfold vbuildT
  rw [if_neg (by simp)]

/-- Is it one own slice, that may change yet? -/
def ownPart (ρ : Operand → Option AV) (parts : List (Nat × Operand)) : Bool := match partsOf ρ parts with
  | some [(0, [.sl _ _ _ _])] => true
  | _ => false
def vbuildO (P : Program) (nid : Nat) (ρ : Operand → Option AV) (t : TypeId) (len : Nat) (parts : List (Nat × Operand)) : RR :=
  match elemOfSlice P t, partsOf ρ parts with
  | some e, some [(0, [c])] => match pv P (typeInfo e), pv P (zeroValue e) with
    | some i, some z => if len = 1 ∧ i.size = 1 ∧ z.cells.size = 1 then some (.one (.sl nid 0 1 1), [.opn [[c]] false], []) else none
    | _, _ => none
  | _, _ => none
def vbuildN (P : Program) (nest cb : Bool) (H : Hp) (nid : Nat) (ρ : Operand → Option AV) (t : TypeId) (len : Nat) (parts : List (Nat × Operand)) : RR :=
  if nest = true ∧ ownPart ρ parts = true then vbuildO P nid ρ t len parts else vbuildT P cb H nid ρ t len parts
@[simp] theorem vbuildN_no {P : Program} {cb : Bool} {H : Hp} {nid : Nat} {ρ : Operand → Option AV} {t : TypeId} {len : Nat} {parts : List (Nat × Operand)} : vbuildN P false cb H nid ρ t len parts = vbuildT P cb H nid ρ t len parts := by
  unfold vbuildN
  rw [if_neg (by simp)]

end Go.Proofs.Vm
end

section
/- What the value machine's reading operations tell of the machine. -/
namespace Go.Proofs.Vm
open Go

theorem pv_run {α : Type} {P : Program} : ∀ {s : Sem α} {a : α} {w : World}, pv P s = some a → s.run P w = .ok a w := by
  intro s
  induction s with
  | pure b => intro a w h; simp [pv] at h; subst h; rfl
  | program k ih => intro a w h; exact ih P h
  | _ => intro a w h; simp [pv] at h

theorem SR.new {X Y : Cx} (S : SR X) (E : Ext X Y) (n : Nat) (hn : ¬ X.D n) (hD : ∀ id, Y.D id ↔ X.D id ∨ id = n) (hr : ∀ e, X.H[n]? = some e → REnt Y (Y.σ n) e)
    (hb : ∀ b, (Y.σ n).blk = some b → X.w.heap.size ≤ b) (hI : ∀ b, Y.I b → X.I b ∨ X.w.heap.size ≤ b) (hlt : ∀ b, Y.I b → b < Y.w.heap.size) (hblk : ∀ id b, X.D id → (X.σ id).blk = some b → b < X.w.heap.size) : SR Y where
  ent id e hd he := by
    rw [E.H] at he
    rcases (hD id).1 hd with hd' | rfl
    · have h := S.ent id e hd' he
      rw [E.σ id hd']
      refine E.rent S (fun b hb' hy => ?_) h
      rcases hI b hy with h' | h'
      · exact h'
      · exact absurd (h.lt hb').1 (by omega)
    · exact hr e he
  inj i j b hi hj hne h1 h2 := by
    rcases (hD i).1 hi with hi' | rfl <;> rcases (hD j).1 hj with hj' | rfl
    · rw [E.σ _ hi'] at h1
      rw [E.σ _ hj'] at h2
      exact S.inj i j b hi' hj' hne h1 h2
    · rw [E.σ _ hi'] at h1
      have := hb b h2
      have := hblk i b hi' h1
      omega
    · rw [E.σ _ hj'] at h2
      have := hb b h1
      have := hblk j b hj' h2
      omega
    · exact hne rfl
  size := by rw [E.base]; exact Nat.le_trans S.size E.sz
  old b hb := by
    rw [E.base] at hb
    rw [E.w0, E.hp b (Nat.lt_of_lt_of_le hb S.size)]
    exact S.old b hb
  imm := hlt
  kp := by rw [E.w0]; exact S.kp.trans E.kp
  tab := by rw [E.base, E.w0]; exact S.tab

/-- Each id that is told of has its entry. -/
def Dom (X : Cx) : Prop := ∀ id, X.D id → ∃ e, X.H[id]? = some e

theorem SR.blk {X : Cx} (S : SR X) (M : Dom X) (id b : Nat) (hd : X.D id) (hb : (X.σ id).blk = some b) : b < X.w.heap.size ∧ X.base ≤ b := by
  obtain ⟨e, he⟩ := M id hd
  exact (S.ent id e hd he).lt hb

/-- What holds behind an operation that made what stands from 'n' on. -/
structure Made (X Y : Cx) (n k : Nat) : Prop where
  ext : Ext X Y
  sr : SR Y
  dom : Dom Y
  D : ∀ id, Y.D id ↔ X.D id ∨ (n ≤ id ∧ id < n + k)
  I' : ∀ b, Y.I b → X.I b ∨ X.w.heap.size ≤ b

theorem Made.same {X : Cx} (S : SR X) (M : Dom X) (n : Nat) : Made X X n 0 := ⟨.refl X, S, M, fun id => ⟨.inl, fun h => h.elim (fun x => x) (by omega)⟩, fun _ h => .inl h⟩

/-- An entry, perhaps no longer to be changed. -/
def Le (e e' : Ent) : Prop := e' = e ∨ e' = e.frz

theorem Le.clo {l : List (List CV)} {f : Bool} {e' : Ent} (h : Le (.clo l f) e') : ∃ g, e' = .clo l g := by
  rcases h with rfl | rfl
  · exact ⟨f, rfl⟩
  · exact ⟨true, rfl⟩

theorem Le.opn {l : List (List Cell)} {f : Bool} {e' : Ent} (h : Le (.opn l f) e') : ∃ g, e' = .opn l g := by
  rcases h with rfl | rfl
  · exact ⟨f, rfl⟩
  · exact ⟨true, rfl⟩

/-- What is new stands in the heap, and is told of by nobody yet. -/
def News (X : Cx) (n : Nat) (l : List Ent) : Prop := ∀ (k : Nat) e, l[k]? = some e → ¬ X.D (n + k) ∧ ∃ e', X.H[n + k]? = some e' ∧ Le e e'

theorem News.head {X : Cx} {n : Nat} {e : Ent} {l : List Ent} (h : News X n (e :: l)) : ¬ X.D n ∧ ∃ e', X.H[n]? = some e' ∧ Le e e' := h 0 e rfl

theorem News.tail {X : Cx} {n : Nat} {e : Ent} {l : List Ent} (h : News X n (e :: l)) : News X (n + 1) l := fun k e hk => by
  have := h (k + 1) e (by simpa using hk)
  rwa [show n + (k + 1) = n + 1 + k by omega] at this

/-- A slice without elements is told of. -/
theorem SR.nil' {X : Cx} (S : SR X) (M : Dom X) (n : Nat) (hn : ¬ X.D n) {f : Bool} (he : X.H[n]? = some (.clo [] f)) (ad : Option Addr) (w' : World) (hsz : X.w.heap.size ≤ w'.heap.size)
    (hp : ∀ b, b < X.w.heap.size → w'.heap[b]? = X.w.heap[b]?) (hkp : Stl X.w w') : ∃ Y, Y.w = w' ∧ Made X Y n 1 ∧ Y.σ n = ⟨ad, none, 0, 0⟩ ∧ Y.I = X.I := by
  let Y : Cx := { X with D := fun id => X.D id ∨ id = n, σ := fun id => if id = n then ⟨ad, none, 0, 0⟩ else X.σ id, w := w' }
  have E : Ext X Y := ⟨rfl, rfl, fun _ h => .inl h, rfl, fun id h => by
    show (if id = n then _ else _) = _
    rw [if_neg (fun e => hn (by rw [← e]; exact h))], fun _ h => h, hsz, hp, hkp⟩
  have hs : Y.σ n = ⟨ad, none, 0, 0⟩ := if_pos rfl
  refine ⟨Y, rfl, ⟨E, S.new E n hn (fun id => Iff.rfl) (fun e h => ?_) (fun b h => ?_) (fun b h => .inl h) (fun b h => Nat.lt_of_lt_of_le (S.imm b h) hsz) (fun id b h1 h2 => (S.blk M id b h1 h2).1), ?_, fun id => ?_, fun _ h => .inl h⟩, hs, rfl⟩
  · rw [he] at h
    cases h
    exact ⟨(fun e h => (by cases h)), .inl ⟨rfl, by rw [hs], by rw [hs]⟩⟩
  · rw [hs] at h
    cases h
  · rintro id (h | rfl)
    · exact M id h
    · exact ⟨_, he⟩
  · constructor
    · rintro (h | rfl)
      · exact .inl h
      · exact .inr ⟨Nat.le_refl _, by omega⟩
    · rintro (h | h)
      · exact .inl h
      · exact .inr (by omega)

theorem SR.nil {X : Cx} (S : SR X) (M : Dom X) (n : Nat) (hn : ¬ X.D n) {f : Bool} (he : X.H[n]? = some (.clo [] f)) (ad : Option Addr) :
    ∃ Y, Y.w = X.w ∧ Made X Y n 1 ∧ Y.σ n = ⟨ad, none, 0, 0⟩ ∧ Y.I = X.I := S.nil' M n hn he ad X.w (Nat.le_refl _) (fun _ _ => rfl) (.refl _)

/-- A new row of cells is told of. -/
theorem SR.alloc {X : Cx} (S : SR X) (M : Dom X) (n : Nat) (hn : ¬ X.D n) {e : Ent} (he : X.H[n]? = some e) (w' : World) (hsz : X.w.heap.size < w'.heap.size)
    (hp : ∀ b, b < X.w.heap.size → w'.heap[b]? = X.w.heap[b]?) (hkp : Stl X.w w') (c : Array Value) (ty : TypeId) (fr : Nat × Nat) (hc : w'.heap[X.w.heap.size]? = some (.cells c ty fr))
    (hfr : ∀ o, o < c.size → w'.frozen? ⟨X.w.heap.size, o, none⟩ = false) (cap sz : Nat) (hcs : c.size = cap * sz) (hle : 0 < e.len ∧ e.len ≤ cap)
    (hok : match e with
      | .clo l _ => (∀ e ∈ l, e.length = sz) ∧ ∀ i j, i < l.length → j < sz → ∃ v, c[i * sz + j]? = some v ∧ okC X l i j v
      | .opn l _ => (∀ e ∈ l, e.length = sz) ∧ ∀ i j, i < l.length → j < sz → ∃ v, c[i * sz + j]? = some v ∧ okO X l i j v
      | .mp _ => False) :
    ∃ Y, Y.w = w' ∧ Made X Y n 1 ∧ Y.σ n = ⟨some ⟨X.w.heap.size, 0, none⟩, some X.w.heap.size, cap, sz⟩ := by
  let fz : Bool := match e with | .clo _ f => f | .opn _ f => f | .mp _ => false
  let Y : Cx := { X with D := fun id => X.D id ∨ id = n, σ := fun id => if id = n then ⟨some ⟨X.w.heap.size, 0, none⟩, some X.w.heap.size, cap, sz⟩ else X.σ id, w := w', I := fun b => X.I b ∨ (fz = true ∧ b = X.w.heap.size) }
  have E : Ext X Y := ⟨rfl, rfl, fun _ h => .inl h, rfl, fun id h => by
    show (if id = n then _ else _) = _
    rw [if_neg (fun e => hn (by rw [← e]; exact h))], fun _ h => .inl h, Nat.le_of_lt hsz, hp, hkp⟩
  have hs : Y.σ n = ⟨some ⟨X.w.heap.size, 0, none⟩, some X.w.heap.size, cap, sz⟩ := if_pos rfl
  have row : ∀ {k : Nat} {f : Bool} {ok : Nat → Nat → Value → Prop}, f = fz → (0 < k ∧ k ≤ cap) → (∀ i j, i < k → j < sz → ∃ v, c[i * sz + j]? = some v ∧ ok i j v) → Row Y (Y.σ n) k f ok := by
    intro k f ok hf hk h
    refine .inr ⟨X.w.heap.size, c, ty, fr, by rw [hs], by rw [hs], hc, hfr, by rw [hs]; exact hcs, by rw [hs]; exact hk, S.size, fun h' => .inr ⟨by rw [← hf]; exact h', rfl⟩, fun h' hb => ?_, fun i j hi hj => ?_⟩
    · rcases hb with hb | ⟨hb, _⟩
      · exact absurd (S.imm _ hb) (by omega)
      · rw [← hf, h'] at hb; cases hb
    · rw [hs] at hj ⊢
      exact h i j hi hj
  refine ⟨Y, rfl, ⟨E, S.new E n hn (fun id => Iff.rfl) (fun e' h => ?_) (fun b h => ?_) (fun b h => ?_) (fun b h => ?_) (fun id b h1 h2 => (S.blk M id b h1 h2).1), ?_, fun id => ?_, fun b h => h.elim .inl fun h => .inr (Nat.le_of_eq h.2.symm)⟩, hs⟩
  · rw [he] at h
    cases h
    cases e with
    | clo l f =>
      refine ⟨by rw [hs]; exact hok.1, row rfl hle fun i j hi hj => ?_⟩
      obtain ⟨v, hv, e, x, h1, h2, h3⟩ := hok.2 i j hi hj
      exact ⟨v, hv, e, x, h1, h2, E.rc S h3⟩
    | opn l f =>
      refine ⟨by rw [hs]; exact hok.1, row rfl hle fun i j hi hj => ?_⟩
      obtain ⟨v, hv, e, x, h1, h2, h3⟩ := hok.2 i j hi hj
      exact ⟨v, hv, e, x, h1, h2, E.rcell S h3⟩
    | mp l => exact hok.elim
  · rw [hs] at h
    cases h
    exact Nat.le_refl _
  · rcases h with h | ⟨_, h⟩
    · exact .inl h
    · exact .inr (by omega)
  · rcases h with h | ⟨_, h⟩
    · exact Nat.lt_trans (S.imm b h) hsz
    · show b < w'.heap.size
      omega
  · rintro id (h | rfl)
    · exact M id h
    · exact ⟨_, he⟩
  · constructor
    · rintro (h | rfl)
      · exact .inl h
      · exact .inr ⟨Nat.le_refl _, by omega⟩
    · rintro (h | h)
      · exact .inl h
      · exact .inr (by omega)

theorem Made.trans {X Y Z : Cx} {n a b : Nat} (h : Made X Y n a) (g : Made Y Z (n + a) b) : Made X Z n (a + b) :=
  ⟨h.ext.trans g.ext, g.sr, g.dom, fun id => by
    rw [g.D, h.D]
    constructor
    · rintro ((h | h) | h)
      · exact .inl h
      · exact .inr (by omega)
      · exact .inr (by omega)
    · rintro (h | h)
      · exact .inl (.inl h)
      · by_cases hlt : id < n + a
        · exact .inl (.inr ⟨h.1, hlt⟩)
        · exact .inr (by omega), fun b hb => (g.I' b hb).elim (h.I' b) fun hb => .inr (Nat.le_trans h.ext.sz hb)⟩

/-- Made in the other order: what stands behind was made first. -/
theorem Made.trans' {X Y Z : Cx} {n a b : Nat} (h : Made X Y (n + a) b) (g : Made Y Z n a) : Made X Z n (a + b) :=
  ⟨h.ext.trans g.ext, g.sr, g.dom, fun id => by
    rw [g.D, h.D]
    constructor
    · rintro ((h | h) | h)
      · exact .inl h
      · exact .inr (by omega)
      · exact .inr (by omega)
    · rintro (h | h)
      · exact .inl (.inl h)
      · by_cases hlt : id < n + a
        · exact .inr ⟨h.1, hlt⟩
        · exact .inl (.inr (by omega)), fun b hb => (g.I' b hb).elim (h.I' b) fun hb => .inr (Nat.le_trans h.ext.sz hb)⟩

theorem News.ext {X Y : Cx} {n m k : Nat} {l : List Ent} (h : News X n l) (g : Made X Y m k) (hd : m + k ≤ n ∨ n + l.length ≤ m) : News Y n l := fun j e hj => by
  obtain ⟨h1, e', h2, h3⟩ := h j e hj
  have hlt : j < l.length := (List.getElem?_eq_some_iff.1 hj).1
  exact ⟨fun hy => (g.D _).1 hy |>.elim h1 (by omega), e', by rw [g.ext.H]; exact h2, h3⟩

def Ent.fzd : Ent → Bool
  | .clo _ f => f
  | .opn _ f => f
  | .mp _ => true

/-- What is given up may not be changed any more. -/
def Given (X : Cx) (ms : List Nat) : Prop := ∀ id, id ∈ ms → X.D id → ∃ e, X.H[id]? = some e ∧ e.fzd = true

/-- What an operation must do: it comes to a value, and what is told of it stands. -/
def Does (P : Program) (X : Cx) (nid : Nat) (r : AV × List Ent × List Nat) (s : Sem Value) : Prop :=
  News X nid r.2.1 → Given X r.2.2 → ∃ v Y, s.run P X.w = .ok v Y.w ∧ Made X Y nid r.2.1.length ∧ RA Y r.1 v

theorem Does.quiet {P : Program} {X : Cx} (S : SR X) (M : Dom X) {nid : Nat} {a : AV} {s : Sem Value} {v : Value} (h : s.run P X.w = .ok v X.w) (hr : RA X a v) : Does P X nid (a, [], []) s :=
  fun _ _ => ⟨v, X, h, .same S M nid, hr⟩

theorem ofPv_does {P : Program} {X : Cx} (S : SR X) (M : Dom X) {nid : Nat} {s : Sem Value} {r : AV × List Ent × List Nat} (h : ofPv (pv P s) = some r) : Does P X nid r s := by
  unfold ofPv at h
  split at h
  · rename_i x hx
    unfold one? at h
    split at h
    · rename_i h1
      cases h
      exact .quiet S M (pv_run hx) (.v x h1)
    · cases h
  · cases h

end Go.Proofs.Vm
end

section
/- The value machine's reading operations, one by one. -/
namespace Go.Proofs.Vm
open Go

theorem rcells_of {X : Cx} {cs : List Cell} (f : Nat → Value) (h : ∀ (j : Nat) c, cs[j]? = some c → RCell X c (f j)) : RCells X cs ((List.range cs.length).map f) := by
  refine ⟨by simp, fun j c y hc hy => ?_⟩
  have hj : j < cs.length := (List.getElem?_eq_some_iff.1 hc).1
  simp [hj] at hy
  subst hy
  exact h j c hc

theorem RCells.drop {X : Cx} {cs : List Cell} {vs : List Value} (h : RCells X cs vs) (k : Nat) : RCells X (cs.drop k) (vs.drop k) := by
  refine ⟨by simp [h.1], fun j c y hc hy => ?_⟩
  rw [List.getElem?_drop] at hc hy
  exact h.2 _ c y hc hy

theorem RCells.take {X : Cx} {cs : List Cell} {vs : List Value} (h : RCells X cs vs) (k : Nat) : RCells X (cs.take k) (vs.take k) := by
  refine ⟨by simp [h.1], fun j c y hc hy => ?_⟩
  rw [List.getElem?_take] at hc hy
  split at hc
  · rename_i hj
    rw [if_pos hj] at hy
    exact h.2 _ c y hc hy
  · cases hc

theorem RCell.one {X : Cx} {c : Cell} {v : Value} (h : RCell X c v) : v.oneCell' = true := by
  cases c with
  | c x => exact RC.one h
  | sl id o n tot => exact h.1
  | ptr p => exact h.1
  | fn f caps => obtain ⟨vs, rfl, _⟩ := h; rfl
  | mp id => obtain ⟨_, l, b, _, _, rfl⟩ := h; rfl

theorem RCells.one {X : Cx} {cs : List Cell} {vs : List Value} (h : RCells X cs vs) : ∀ v ∈ vs, v.oneCell' = true := by
  intro v hv
  obtain ⟨j, hj⟩ := List.getElem?_of_mem hv
  have hlt : j < cs.length := by rw [h.1]; exact (List.getElem?_eq_some_iff.1 hj).1
  exact (h.2 j _ v (List.getElem?_eq_getElem hlt) hj).one

theorem row_at {X : Cx} {s : Sl} {n : Nat} {fz : Bool} {ok : Nat → Nat → Value → Prop} (h : Row X s n fz ok) {i : Nat} (hi : i < n) {b : Nat} (hb : s.blk = some b) :
    ∃ f : Nat → Value, ∀ j, j < s.sz → X.w.cell? ⟨b, i * s.sz + j, none⟩ = some (f j) ∧ ok i j (f j) := by
  rcases h with ⟨h0, _⟩ | ⟨b', c, ty, fr, h1, _, h3, _, _, _, _, _, _, h10⟩
  · omega
  · rw [h1] at hb
    cases hb
    refine ⟨fun j => (c[i * s.sz + j]?).getD undef, fun j hj => ?_⟩
    obtain ⟨v, hv, ho⟩ := h10 i j hi hj
    simp only [World.cell?, h3, hv, Option.getD_some]
    exact ⟨rfl, ho⟩

theorem row_blk {X : Cx} {s : Sl} {n : Nat} {fz : Bool} {ok : Nat → Nat → Value → Prop} (h : Row X s n fz ok) (hn : 0 < n) : ∃ b, s.blk = some b ∧ s.hd = some ⟨b, 0, none⟩ := by
  rcases h with ⟨h0, _⟩ | ⟨b', c, ty, fr, h1, h2, _⟩
  · omega
  · exact ⟨b', h1, h2⟩

theorem cellsAt_sound {X : Cx} (S : SR X) {p : Pt} {cs : List Cell} (h : cellsAt X.H p = some cs) {v : Value} (hv : RPt X p v) :
    ∃ b o vs, v = .pointer (some ⟨b, o, none⟩) ∧ RCells X cs vs ∧ ∀ (j : Nat) y, vs[j]? = some y → X.w.cell? ⟨b, o + j, none⟩ = some y := by
  obtain ⟨_, hd, e, he, _, hp⟩ := hv
  have hent := S.ent _ e hd he
  unfold cellsAt at h
  rw [he] at h
  cases e with
  | mp l => cases h
  | opn l fz =>
    dsimp only at h
    split at h
    · rename_i hl
      obtain ⟨b, hb, rfl⟩ := hp hl
      obtain ⟨c, hc, rfl⟩ := Option.map_eq_some_iff.1 h
      have hi := (List.getElem?_eq_some_iff.1 hc).1
      obtain ⟨f, hf⟩ := row_at hent.2 hi hb
      have hlen : c.length = (X.σ p.id).sz := hent.1 c (List.mem_of_getElem? hc)
      refine ⟨b, _, _, rfl, rcells_of (fun j => f (p.off + j)) fun j x hx => ?_, fun j y hy => ?_⟩
      · rw [List.getElem?_drop] at hx
        have hlt := (List.getElem?_eq_some_iff.1 hx).1
        obtain ⟨_, e', x', h1, h2, h3⟩ := hf (p.off + j) (by omega)
        rw [hc] at h1; cases h1
        rw [hx] at h2; cases h2
        exact h3
      · have hj : j < c.length - p.off := by
          have := (List.getElem?_eq_some_iff.1 hy).1
          simpa using this
        simp only [List.length_drop] at hy
        rw [List.getElem?_map, List.getElem?_range hj] at hy
        cases hy
        rw [Nat.add_assoc]
        exact (hf (p.off + j) (by omega)).1
    · cases h
  | clo l fz =>
    dsimp only at h
    split at h
    · rename_i hl
      obtain ⟨b, hb, rfl⟩ := hp hl
      obtain ⟨c, hc, rfl⟩ := Option.map_eq_some_iff.1 h
      have hi := (List.getElem?_eq_some_iff.1 hc).1
      obtain ⟨f, hf⟩ := row_at hent.2 hi hb
      have hlen : c.length = (X.σ p.id).sz := hent.1 c (List.mem_of_getElem? hc)
      refine ⟨b, _, _, rfl, rcells_of (fun j => f (p.off + j)) fun j x hx => ?_, fun j y hy => ?_⟩
      · rw [List.getElem?_map, List.getElem?_drop] at hx
        obtain ⟨x0, hx0, hx1⟩ := Option.map_eq_some_iff.1 hx
        subst hx1
        have hlt := (List.getElem?_eq_some_iff.1 hx0).1
        obtain ⟨_, e', x', h1, h2, h3⟩ := hf (p.off + j) (by omega)
        rw [hc] at h1; cases h1
        rw [hx0] at h2; cases h2
        exact h3
      · have hj : j < c.length - p.off := by
          have := (List.getElem?_eq_some_iff.1 hy).1
          simpa using this
        simp only [List.length_drop, List.length_map] at hy
        rw [List.getElem?_map, List.getElem?_range hj] at hy
        cases hy
        rw [Nat.add_assoc]
        exact (hf (p.off + j) (by omega)).1
    · cases h

theorem behind_sound {X : Cx} (S : SR X) {a : AV} {cs : List Cell} (h : behind X.H a = some cs) {v : Value} (hv : RA X a v) :
    ∃ b o vs, v = .pointer (some ⟨b, o, none⟩) ∧ RCells X cs vs ∧ ∀ (j : Nat) y, vs[j]? = some y → X.w.cell? ⟨b, o + j, none⟩ = some y := by
  unfold behind at h
  split at h
  · exact cellsAt_sound S h hv
  · rename_i cs0
    cases h
    cases hv with
    | cptr cs b o f hI ha hr =>
      refine ⟨b, o, _, rfl, rcells_of f fun j x hx => ?_, fun j y hy => ?_⟩
      · rw [List.getElem?_map] at hx
        obtain ⟨x0, hx0, hx1⟩ := Option.map_eq_some_iff.1 hx
        subst hx1
        exact hr j x0 hx0
      · have hj : j < cs0.length := by
          have := (List.getElem?_eq_some_iff.1 hy).1
          simpa using this
        simp only [List.length_map] at hy
        rw [List.getElem?_map, List.getElem?_range hj] at hy
        cases hy
        exact ha j hj
  · cases h

theorem add_plain (b o k : Nat) : (⟨b, o, none⟩ : Addr).add k = ⟨b, o + k, none⟩ := by unfold Addr.add; split <;> simp_all

variable {P : Program} {X : Cx}

theorem vload_does (S : SR X) (M : Dom X) {nid : Nat} {t : TypeId} {a : AV} {r : AV × List Ent × List Nat} (h : vload P X.H t a = some r) {v : Value} (hv : RA X a v) :
    Does P X nid r (Instr.loadAt t v) := by
  unfold vload at h
  split at h
  case h_2 => cases h
  rename_i cs hb
  obtain ⟨b, o, vs, rfl, hcs, hcell⟩ := behind_sound S hb hv
  split at h
  · rename_i ht
    split at h
    case h_2 => cases h
    rename_i n hn
    split at h
    case isFalse => cases h
    rename_i hle
    cases h
    have hvs : n ≤ vs.length := by rw [← hcs.1]; exact hle
    refine .quiet S M (v := .agg (vs.take n).toArray) ?_ ⟨vs.take n, rfl, hcs.take n⟩
    have hl := run_loadCells_list (P := P) X.w ⟨b, o, none⟩ (vs.take n) (fun j y hy => by
      rw [add_plain]
      rw [List.getElem?_take] at hy
      split at hy
      · exact hcell j y hy
      · cases hy)
    rw [List.length_take, Nat.min_eq_left hvs] at hl
    simp [Instr.loadAt, Instr.sureAddr, loadVar, pv_run ht, pv_run hn, hl]
  · rename_i ht
    split at h
    case h_2 => cases h
    rename_i c r'
    cases h
    cases vs with
    | nil => simp [RCells] at hcs
    | cons y r'' =>
      refine .quiet S M (v := y) ?_ (hcs.2 0 c y rfl rfl)
      have := hcell 0 y rfl
      simp only [Nat.add_zero] at this
      simp [Instr.loadAt, Instr.sureAddr, loadVar, pv_run ht, this]
  · cases h

theorem fieldOf_run {s : TypeId} {f : Nat} {fd : Field} (h : fieldOf P s f = some fd) : ∃ fields : Array Field, (∀ w, (underlying s).run P w = .ok (.struct fields) w) ∧ fields[f]? = some fd := by
  unfold fieldOf at h
  split at h
  · rename_i fields hf
    exact ⟨fields, fun w => pv_run hf, h⟩
  · cases h

theorem part_run {t : TypeId} {vs : List Value} {off : Nat} {w : World} :
    (∀ n, pv P (isAgg t) = some true → pv P (sizeOf t) = some n → (part t vs.toArray off).run P w = .ok (.agg ((vs.drop off).take n).toArray) w) ∧
    (∀ y, pv P (isAgg t) = some false → vs[off]? = some y → (part t vs.toArray off).run P w = .ok y w) := by
  constructor
  · intro n h1 h2
    simp [part, pv_run h1, pv_run h2]
  · intro y h1 h2
    simp [part, pv_run h1, h2]

theorem vfield_does (S : SR X) (M : Dom X) {nid : Nat} {s : TypeId} {f : Nat} {a : AV} {r : AV × List Ent × List Nat} (h : vfield P s f a = some r) {v : Value} (hv : RA X a v) :
    Does P X nid r (Instr.field s v f) := by
  unfold vfield at h
  split at h
  case h_2 => cases h
  rename_i fd l hf
  obtain ⟨fields, h1, h2⟩ := fieldOf_run hf
  obtain ⟨vs, rfl, hcs⟩ := hv
  split at h
  · rename_i ht
    split at h
    case h_2 => cases h
    rename_i n hn
    split at h
    case isFalse => cases h
    rename_i hle
    cases h
    refine .quiet S M (v := .agg ((vs.drop fd.offset).take n).toArray) ?_ ⟨_, rfl, (hcs.drop _).take n⟩
    simp [Instr.field, h1, h2, asAgg, part_run.1 n ht hn]
  · rename_i ht
    split at h
    case h_2 => cases h
    rename_i c hc
    cases h
    have hlt : fd.offset < vs.length := by rw [← hcs.1]; exact (List.getElem?_eq_some_iff.1 hc).1
    refine .quiet S M (v := vs[fd.offset]) ?_ (hcs.2 _ c _ hc (List.getElem?_eq_getElem hlt))
    simp [Instr.field, h1, h2, asAgg, part_run.2 _ ht (List.getElem?_eq_getElem hlt)]
  · cases h

theorem shift_sound {a : AV} {k : Nat} {r : AV × List Ent × List Nat} (h : shift X.H a k = some r) {v : Value} (hv : RA X a v) :
    r.2 = ([], []) ∧ ∃ b o, v = .pointer (some ⟨b, o, none⟩) ∧ RA X r.1 (.pointer (some ⟨b, o + k, none⟩)) := by
  unfold shift at h
  split at h
  · rename_i p
    split at h
    case h_2 => cases h
    rename_i e' he'
    split at h
    case isFalse => cases h
    rename_i hl
    cases h
    refine ⟨rfl, ?_⟩
    obtain ⟨h0, hd, e, he, hle, hp⟩ := hv
    rw [he] at he'
    cases he'
    obtain ⟨b, hb, rfl⟩ := hp hl
    exact ⟨b, _, rfl, rfl, hd, _, he, hle, fun _ => ⟨b, hb, by simp [Nat.add_assoc]⟩⟩
  · rename_i cs
    cases h
    refine ⟨rfl, ?_⟩
    cases hv with
    | cptr cs b o f hI ha hr =>
      refine ⟨b, o, rfl, .cptr _ b (o + k) (fun j => f (k + j)) hI (fun j hj => ?_) fun j x hx => ?_⟩
      · rw [List.length_drop] at hj
        rw [Nat.add_assoc]
        exact ha (k + j) (by omega)
      · rw [List.getElem?_drop] at hx
        exact hr _ x hx
  · cases h

theorem vfieldAddr_does (S : SR X) (M : Dom X) {nid : Nat} {s : TypeId} {f : Nat} {a : AV} {r : AV × List Ent × List Nat} (h : vfieldAddr P X.H s f a = some r) {v : Value} (hv : RA X a v) :
    Does P X nid r (Instr.fieldAt s v f) := by
  unfold vfieldAddr at h
  split at h
  case h_2 => cases h
  rename_i fd hf
  obtain ⟨fields, h1, h2⟩ := fieldOf_run hf
  split at h
  case h_2 => cases h
  rename_i n hn
  obtain ⟨hr, b, o, rfl, hra⟩ := shift_sound h hv
  obtain ⟨a', r2⟩ := r
  cases hr
  refine .quiet S M ?_ hra
  simp [Instr.fieldAt, h1, h2, Instr.sureAddr, fieldPlace, pv_run hn, add_plain]

theorem elemOf_run {t e : TypeId} (h : elemOfSlice P t = some e) (w : World) : (underlying t).run P w = .ok (.slice e) w := by
  unfold elemOfSlice at h
  split at h
  · rename_i e' he
    cases h
    exact pv_run he
  · cases h

theorem elAt_sound (S : SR X) {id tot i n : Nat} (h : elAt X.H id tot i = some n) (hd : X.D id) : ∃ e, X.H[id]? = some e ∧ e.len = tot ∧ i < tot ∧ n = (X.σ id).sz ∧ ∃ b, (X.σ id).blk = some b ∧ (X.σ id).hd = some ⟨b, 0, none⟩ := by
  unfold elAt at h
  split at h
  · rename_i l fz he
    split at h
    case isFalse => cases h
    rename_i hl
    obtain ⟨c, hc, rfl⟩ := Option.map_eq_some_iff.1 h
    have hent := S.ent _ _ hd he
    have hi := (List.getElem?_eq_some_iff.1 hc).1
    exact ⟨_, he, hl, by omega, hent.1 c (List.mem_of_getElem? hc), row_blk hent.2 (by omega)⟩
  · rename_i l fz he
    split at h
    case isFalse => cases h
    rename_i hl
    obtain ⟨c, hc, rfl⟩ := Option.map_eq_some_iff.1 h
    have hent := S.ent _ _ hd he
    have hi := (List.getElem?_eq_some_iff.1 hc).1
    exact ⟨_, he, hl, by omega, hent.1 c (List.mem_of_getElem? hc), row_blk hent.2 (by omega)⟩
  · cases h

theorem vindexAddr_does (S : SR X) (M : Dom X) {nid : Nat} {t : TypeId} {a ix : AV} {r : AV × List Ent × List Nat} (h : vindexAddr P X.H t a ix = some r) {v u : Value} (hv : RA X a v) (hu : RA X ix u) :
    Does P X nid r (Instr.indexAt t v u) := by
  unfold vindexAddr at h
  split at h
  case h_2 => cases h
  rename_i e he
  split at h
  case h_2 => cases h
  rename_i sz k i hsz
  cases hu
  split at h
  case isFalse => cases h
  rename_i h0
  split at h
  · rename_i id o n tot
    split at h
    case isFalse => cases h
    rename_i hi
    split at h
    case isFalse => cases h
    rename_i hel
    cases h
    obtain ⟨h1, hd, e0, he0, hle, hle2, hp⟩ := hv
    obtain ⟨e1, he1, hl1, hi1, rfl, b, hb, hhd⟩ := elAt_sound S hel hd
    rw [he0] at he1
    cases he1
    obtain ⟨ad, cap, rfl, hnc, had, _⟩ := hp hl1
    obtain ⟨b', hb', rfl⟩ := had (Nat.ne_of_gt (Nat.lt_of_le_of_lt (Nat.zero_le _) hi))
    rw [hb] at hb'
    cases hb'
    clear had hp
    refine .quiet S M (v := .pointer (some ⟨b, (o + i.toNat) * (X.σ id).sz, none⟩)) ?_ ⟨rfl, hd, e0, he0, hle2, fun _ => ⟨b, hb, by simp⟩⟩
    simp [Instr.indexAt, asIntOf, elemOf_run he, pv_run hsz, add_plain, Nat.add_mul]
    intro hx
    exact absurd (hx h0) (by omega)
  · rename_i l
    split at h
    case h_2 => cases h
    rename_i c hc
    split at h
    case isFalse => cases h
    rename_i hcl
    cases h
    have hi := (List.getElem?_eq_some_iff.1 hc).1
    cases hv with
    | arr l a cap sz' f hcap hs ha hr =>
      obtain ⟨b, o, rfl, hI, hcell⟩ := ha (fun e => by rw [e] at hi; simp at hi)
      have hsz' : sz' = sz := by rw [← hs c (List.mem_of_getElem? hc), hcl]
      subst hsz'
      refine .quiet S M (v := .pointer (some ⟨b, o + i.toNat * sz', none⟩)) ?_ (.cptr c b _ (f i.toNat) hI (fun j hj => ?_) fun j x hx => hr _ _ _ _ hc hx)
      · simp [Instr.indexAt, asIntOf, elemOf_run he, pv_run hsz, add_plain]
        intro hx
        exact absurd (hx h0) (by omega)
      · rw [Nat.add_assoc]
        exact hcell _ j hi (by omega)
  · cases h

end Go.Proofs.Vm
end

section
/- The value machine's reading operations, one by one (on). -/
namespace Go.Proofs.Vm
open Go

variable {P : Program} {X : Cx}

theorem Cell.sc_sound {c : Cell} {x v : Value} (h : c.sc = some x) (hv : RCell X c v) : v = x := by
  unfold Cell.sc at h
  split at h
  · cases h
    cases hv
    rfl
  · cases h

theorem scs_sound : ∀ {l : List Cell} {xs vs : List Value}, scs l = some xs → RCells X l vs → vs = xs
  | [], xs, vs, h, hv => by
    simp [scs] at h
    subst h
    have := hv.1
    cases vs with
    | nil => rfl
    | cons _ _ => simp at this
  | c :: r, xs, vs, h, hv => by
    unfold scs at h
    split at h
    · rename_i x l hx hl
      cases h
      cases vs with
      | nil => exact absurd hv.1 (by simp)
      | cons y vs =>
        rw [Cell.sc_sound hx (hv.2 0 c y rfl rfl), scs_sound hl ⟨by simpa using hv.1, fun j c' y' hc hy => hv.2 (j + 1) c' y' hc hy⟩]
    · cases h

theorem AV.sc_sound {a : AV} {x v : Value} (h : a.sc = some x) (hv : RA X a v) : v = x := by
  unfold AV.sc at h
  split at h
  · exact Cell.sc_sound h hv
  · obtain ⟨xs, hxs, rfl⟩ := Option.map_eq_some_iff.1 h
    obtain ⟨vs, rfl, hvs⟩ := hv
    rw [scs_sound hxs hvs]
  · cases h

def ROpt (X : Cx) : Option AV → Option Value → Prop
  | none, none => True
  | some a, some v => RA X a v
  | _, _ => False

theorem optSc_sound {a : Option AV} {l : Option Value} {v : Option Value} (h : optSc a = some l) (hv : ROpt X a v) : v = l := by
  unfold optSc at h
  split at h
  · cases h
    cases v <;> simp [ROpt] at hv ⊢
  · rename_i a'
    obtain ⟨x, hx, rfl⟩ := Option.map_eq_some_iff.1 h
    cases v with
    | none => exact hv.elim
    | some v => rw [AV.sc_sound hx hv]

theorem optInt_sound {a : Option AV} {l : Option Int} {v : Option Value} (h : optInt a = some l) (hv : ROpt X a v) : (l = none ∧ v = none) ∨ ∃ k i, l = some i ∧ v = some (.int k i) := by
  unfold optInt at h
  split at h
  · cases h
    cases v <;> simp [ROpt] at hv ⊢
  · rename_i k i
    cases h
    cases v with
    | none => exact hv.elim
    | some v =>
      cases hv
      exact .inr ⟨k, i, rfl, rfl⟩
  · cases h

theorem slice_run {t e : TypeId} {sz : Nat} (he : elemOfSlice P t = some e) (hsz : pv P (sizeOf e) = some sz) (w : World) (ad : Option Addr) (n cap : Nat) {l h : Option Int} {lo hi : Option Value}
    (hl : (l = none ∧ lo = none) ∨ ∃ k i, l = some i ∧ lo = some (.int k i)) (hh : (h = none ∧ hi = none) ∨ ∃ k i, h = some i ∧ hi = some (.int k i))
    (h0 : 0 ≤ l.getD 0) (h1 : l.getD 0 ≤ h.getD n) (h2 : h.getD n ≤ n) (hc : n ≤ cap) :
    (Instr.sliceAt t (.slice ad n cap) lo hi none).run P w =
      .ok (.slice (if cap = (l.getD 0).toNat then ad else ad.map (·.add ((l.getD 0).toNat * sz))) ((h.getD n).toNat - (l.getD 0).toNat) (cap - (l.getD 0).toNat)) w := by
  rcases hl with ⟨rfl, rfl⟩ | ⟨k, i, rfl, rfl⟩ <;> rcases hh with ⟨rfl, rfl⟩ | ⟨k', i', rfl, rfl⟩
  · simp [Instr.sliceAt, Instr.slice, Instr.sliceBounds, elemOf_run he, pv_run hsz]
  · simp only [Option.getD_some, Option.getD_none] at h0 h1 h2 ⊢
    have a1 : 0 ≤ i' ∧ i' ≤ (cap : Int) := by omega
    simp [Instr.sliceAt, Instr.slice, Instr.sliceBounds, Instr.sliceBound, asIntOf, elemOf_run he, pv_run hsz, a1]
  · simp only [Option.getD_some, Option.getD_none] at h0 h1 h2 ⊢
    have a1 : 0 ≤ i ∧ i ≤ (n : Int) := by omega
    simp [Instr.sliceAt, Instr.slice, Instr.sliceBounds, Instr.sliceBound, asIntOf, elemOf_run he, pv_run hsz, a1]
  · simp only [Option.getD_some] at h0 h1 h2 ⊢
    have a1 : 0 ≤ i' ∧ i' ≤ (cap : Int) := by omega
    have a2 : 0 ≤ i ∧ i ≤ max i' 0 := by omega
    simp [Instr.sliceAt, Instr.slice, Instr.sliceBounds, Instr.sliceBound, asIntOf, elemOf_run he, pv_run hsz, a1, a2]

theorem RC.arr_len {I : Nat → Prop} {w : World} {l : List (List CV)} {v : Value} (h : RC I w (.arr l) v) : ∃ a cap, v = .slice a l.length cap ∧ l.length ≤ cap := by
  cases h with
  | arr l a cap sz f hc hs ha hr => exact ⟨a, cap, rfl, hc⟩

theorem vslice_does (S : SR X) (M : Dom X) {nid : Nat} {t : TypeId} {a : AV} {lo hi mx : Option AV} {r : AV × List Ent × List Nat} (h : vslice P X.H nid t a lo hi mx = some r) {v : Value} (hv : RA X a v)
    {lov hiv mxv : Option Value} (hlo : ROpt X lo lov) (hhi : ROpt X hi hiv) (hmx : ROpt X mx mxv) : Does P X nid r (Instr.sliceAt t v lov hiv mxv) := by
  unfold vslice at h
  split at h
  · rename_i id o n tot
    split at h
    case h_2 => cases h
    rename_i e l hh he hl hhh
    split at h
    case h_2 => cases h
    rename_i sz hsz
    dsimp only at h
    split at h
    case isFalse => cases h
    rename_i hc
    obtain ⟨h00, h0, h1, h2, h3⟩ := hc
    cases h
    have hl' := optInt_sound hl hlo
    have hh' := optInt_sound hhh hhi
    cases mxv with
    | some m => exact hmx.elim
    | none =>
    obtain ⟨_, hd, e0, he0, hle, hle2, hp⟩ := hv
    have hlen : e0.len = tot := by
      unfold lenIs at h00
      rw [he0] at h00
      exact beq_iff_eq.1 h00
    · obtain ⟨ad, cap, rfl, hnc, had, hfull⟩ := hp hlen
      refine .quiet S M (slice_run he hsz X.w ad n cap hl' hh' h0 h1 h2 hnc) ⟨rfl, hd, e0, he0, by omega, hle2, fun _ => ⟨_, _, rfl, by omega, fun hne => ?_, fun ho hn => ?_⟩⟩
      · have hlt : (l.getD 0).toNat < (hh.getD ↑n).toNat := by omega
        have hn0 : n ≠ 0 := by omega
        rcases h3 with h3 | h3
        · omega
        · obtain ⟨e1, he1, hl1, hi1, rfl, b, hb, hhd⟩ := elAt_sound S h3 hd
          obtain ⟨b', hb', rfl⟩ := had hn0
          clear had hfull hp
          refine ⟨b', hb', ?_⟩
          rw [if_neg (by omega)]
          simp [add_plain, Nat.add_mul]
      · have hz : (l.getD 0).toNat = 0 := by omega
        have hn' : n = tot := by omega
        have ho' : o = 0 := by omega
        obtain ⟨f1, f2⟩ := hfull ho' hn'
        rw [hz]
        refine ⟨?_, by rw [← f2]; rfl⟩
        rw [← f1]
        split
        · rfl
        · cases ad <;> simp [Addr.add]
  · rename_i xs
    split at h
    · rename_i e l hh he hl hhh
      split at h
      case h_2 => cases h
      rename_i sz hsz
      dsimp only at h
      split at h
      case isFalse => cases h
      rename_i hc
      obtain ⟨h0, h1, h2, h3⟩ := hc
      cases h
      have hl' := optInt_sound hl hlo
      have hh' := optInt_sound hhh hhi
      cases mxv with
      | some m => exact hmx.elim
      | none =>
      cases hv with
      | arr l' a cap sz' f hcap hs ha hr =>
        refine .quiet S M (slice_run he hsz X.w a xs.length cap hl' hh' h0 h1 h2 hcap) ?_
        have hlen : (((xs.drop (l.getD 0).toNat).take ((hh.getD xs.length).toNat - (l.getD 0).toNat))).length = (hh.getD xs.length).toNat - (l.getD 0).toNat := by
          simp; omega
        show RC X.I X.w _ _
        suffices key : RC X.I X.w (.arr ((xs.drop (l.getD 0).toNat).take ((hh.getD xs.length).toNat - (l.getD 0).toNat))) (.slice (if cap = (l.getD 0).toNat then a else a.map (·.add ((l.getD 0).toNat * sz)))
            ((xs.drop (l.getD 0).toNat).take ((hh.getD xs.length).toNat - (l.getD 0).toNat)).length (cap - (l.getD 0).toNat)) by rw [hlen] at key; exact key
        refine .arr _ _ (cap - (l.getD 0).toNat) sz (fun i j => f ((l.getD 0).toNat + i) j) (by rw [hlen]; omega) (fun e he => h3 e (List.mem_of_mem_drop (List.mem_of_mem_take he))) (fun hne => ?_) (fun i j e x hi hx => ?_)
        · have hpos : 0 < (hh.getD xs.length).toNat - (l.getD 0).toNat := by
            rw [← hlen]; exact List.length_pos_iff.2 hne
          have hxs : xs ≠ [] := fun e => by rw [e] at h2 hpos; simp at h2 hpos; omega
          obtain ⟨b, o, rfl, hI, hcell⟩ := ha hxs
          have hsz' : sz' = sz := by
            cases xs with
            | nil => exact absurd rfl hxs
            | cons y ys => rw [← hs y (by simp), h3 y (by simp)]
          subst hsz'
          rw [if_neg (by omega)]
          refine ⟨b, o + (l.getD 0).toNat * sz', by simp [add_plain], hI, fun i j hi hj => ?_⟩
          rw [hlen] at hi
          have := hcell ((l.getD 0).toNat + i) j (by omega) hj
          rw [← this, Nat.add_mul]
          congr 2
          omega
        · rw [List.getElem?_take] at hi
          split at hi
          · rw [List.getElem?_drop] at hi
            exact hr _ _ _ _ hi hx
          · cases hi
    · rename_i e k2 k3 he hl hhh
      split at h
      case h_2 => cases h
      rename_i sz hsz
      cases h
      rcases optInt_sound hl hlo with ⟨_, rfl⟩ | ⟨_, _, h, _⟩
      case inr => cases h
      rcases optInt_sound hhh hhi with ⟨h, _⟩ | ⟨k4, i4, h, rfl⟩
      case inl => cases h
      cases h
      cases mxv with
      | none => exact hmx.elim
      | some m =>
      cases hmx
      intro hn _
      obtain ⟨h1, e', he', hle⟩ := hn.head
      obtain ⟨g, rfl⟩ := hle.clo
      obtain ⟨a, cap, rfl, hcap⟩ := hv.arr_len
      obtain ⟨Y, hw, hY, hσ, _⟩ := S.nil M nid h1 he' a
      refine ⟨.slice a 0 0, Y, ?_, hY, rfl, (hY.D nid).2 (.inr ⟨Nat.le_refl _, by simp⟩), _, by rw [hY.ext.H]; exact he', by simp, by simp [Ent.len], fun _ => ⟨a, 0, rfl, Nat.le_refl _, fun h => absurd rfl h, fun _ _ => by rw [hσ]; exact ⟨rfl, rfl⟩⟩⟩
      rw [hw]
      simp [Instr.sliceAt, Instr.slice, Instr.sliceBounds, Instr.sliceBound, asIntOf, elemOf_run he, pv_run hsz]
    · cases h
  · split at h
    case h_2 => cases h
    rename_i x l hh m hx hl hhh hm
    rw [AV.sc_sound hx hv, optSc_sound hl hlo, optSc_sound hhh hhi, optSc_sound hm hmx]
    exact ofPv_does S M h

end Go.Proofs.Vm
end

section
/- The value machine's reading operations, one by one (on): lengths, numbers, what is made. -/
namespace Go.Proofs.Vm
open Go

variable {P : Program} {X : Cx}

theorem one_does (S : SR X) (M : Dom X) {nid : Nat} {x : Value} {r : AV × List Ent × List Nat} (h : one? x = some r) {s : Sem Value} (hs : s.run P X.w = .ok x X.w) : Does P X nid r s := by
  unfold one? at h
  split at h
  · rename_i h1
    cases h
    exact .quiet S M hs (.v x h1)
  · cases h

theorem vlen_does (S : SR X) (M : Dom X) {nid : Nat} {at_ : Array TypeId} {ty : TypeId} {a : AV} {r : AV × List Ent × List Nat} (h : vlen P X.H at_ ty a = some r) {v : Value} (hv : RA X a v) :
    Does P X nid r (Builtin.len_ at_ ty #[v]) := by
  unfold vlen at h
  split at h
  case h_2 => cases h
  rename_i t ht
  split at h
  · rename_i id o n tot
    split at h
    case h_2 => cases h
    rename_i e he
    split at h
    case isFalse => cases h
    rename_i hl
    obtain ⟨_, hd, e0, he0, hle, hle2, hp⟩ := hv
    unfold lenIs at hl
    rw [he0] at hl
    obtain ⟨ad, cap, rfl, _⟩ := hp (beq_iff_eq.1 hl)
    exact one_does S M h (by simp [Builtin.len_, ht, elemOf_run he, goInt])
  · rename_i l
    split at h
    case h_2 => cases h
    rename_i e he
    obtain ⟨ad, cap, rfl, _⟩ := RC.arr_len hv
    exact one_does S M h (by simp [Builtin.len_, ht, elemOf_run he, goInt])
  · rename_i id
    split at h
    case h_2 => cases h
    rename_i id' l hm
    split at h
    case isFalse => cases h
    rename_i hmt
    unfold mapAt at hm
    dsimp only at hm
    split at hm
    case h_2 => cases hm
    rename_i l0 hl0
    cases hm
    obtain ⟨hd, l', b, h1, h2, rfl⟩ := hv
    rw [hl0] at h1
    cases h1
    obtain ⟨b', es, ck, k1, k2, k3, k4, k5, k6⟩ := S.ent _ _ hd hl0
    rw [h2] at k1
    cases k1
    unfold isMapT at hmt
    split at hmt
    case h_2 => cases hmt
    rename_i key elem hu
    exact one_does S M h (by
      unfold Builtin.len_
      simp only [ht, List.getElem?_toArray, List.getElem?_cons_zero, Sem.run_bind, pv_run hu, Result.andThen, getObj, Sem.run, k2, Sem.run_pure, k5.1]
      rfl)
  · split at h
    case h_2 => cases h
    rename_i x hx
    rw [AV.sc_sound hx hv]
    exact ofPv_does S M h

theorem isPtr_sound {a : AV} (h : isPtr a = true) {v : Value} (hv : RA X a v) (hf : fresh X.H a = true) : ∃ b, v = .pointer (some b) := by
  unfold isPtr at h
  split at h
  · rename_i p
    obtain ⟨_, hd, e, he, hle, hp⟩ := hv
    unfold fresh at hf
    dsimp only at hf
    unfold lenIs at hf
    rw [he] at hf
    obtain ⟨b, _, rfl⟩ := hp (beq_iff_eq.1 hf)
    exact ⟨_, rfl⟩
  · cases hv
    exact ⟨_, rfl⟩
  · cases h

theorem isNilp_sound {a : AV} (h : isNilp a = true) {v : Value} (hv : RA X a v) : v = .pointer none := by
  unfold isNilp at h
  split at h
  · cases hv
    rfl
  · cases h

theorem ptr_nil {t e : TypeId} (he : pv P (underlying t) = some (.pointer e)) {u v : Value} {q : Addr} (hq : (u = .pointer (some q) ∧ v = .pointer none) ∨ (u = .pointer none ∧ v = .pointer (some q))) {x y : Operand} {w : World} :
    (do eqGuard .eql t x y u v; binOp .eql t u v : Sem Value).run P w = .ok (.bool false) w ∧ (do eqGuard .neq t x y u v; binOp .neq t u v : Sem Value).run P w = .ok (.bool true) w := by
  have key : (Op.equal t u v).run P w = .ok false w := by
    show (Op.equalIn (9999 + 1) t u v).run P w = _
    generalize 9999 = d
    rcases hq with ⟨rfl, rfl⟩ | ⟨rfl, rfl⟩ <;> simp [Op.equalIn, pv_run he]
  have k1 : binOp .eql t u v = (do pure (.bool (← Op.equal t u v))) := by rcases hq with ⟨rfl, rfl⟩ | ⟨rfl, rfl⟩ <;> rfl
  have k2 : binOp .neq t u v = (do pure (.bool (!(← Op.equal t u v)))) := by rcases hq with ⟨rfl, rfl⟩ | ⟨rfl, rfl⟩ <;> rfl
  have k3 : ∀ op, (eqGuard op t x y u v).run P w = .ok () w := by
    intro op
    rcases hq with ⟨rfl, rfl⟩ | ⟨rfl, rfl⟩ <;> cases op <;> rfl
  constructor
  · simp only [Sem.run_bind, k3, Result.andThen_ok, k1, key, Sem.run_pure]
  · simp only [Sem.run_bind, k3, Result.andThen_ok, k2, key, Sem.run_pure, Bool.not_false]

theorem vbin0_does (S : SR X) (M : Dom X) {nid : Nat} {op : BinOp} {t : TypeId} {x y : Operand} {a b : AV} {r : AV × List Ent × List Nat} (h : vbin0 P X.H op t x y a b = some r) {u v : Value} (hu : RA X a u) (hv : RA X b v) :
    Does P X nid r (do eqGuard op t x y u v; binOp op t u v) := by
  unfold vbin0 at h
  split at h
  · rename_i hc
    have hp : ∃ q, (u = .pointer (some q) ∧ v = .pointer none) ∨ (u = .pointer none ∧ v = .pointer (some q)) := by
      rcases Bool.or_eq_true _ _ ▸ hc with h1 | h1
      · simp only [Bool.and_eq_true] at h1
        obtain ⟨q, hq⟩ := isPtr_sound h1.1.1 hu h1.1.2
        exact ⟨q, .inl ⟨hq, isNilp_sound h1.2 hv⟩⟩
      · simp only [Bool.and_eq_true] at h1
        obtain ⟨q, hq⟩ := isPtr_sound h1.2.1 hv h1.2.2
        exact ⟨q, .inr ⟨isNilp_sound h1.1 hu, hq⟩⟩
    obtain ⟨q, hq⟩ := hp
    split at h
    · rename_i e he
      exact one_does S M h (ptr_nil he hq).1
    · rename_i e he
      exact one_does S M h (ptr_nil he hq).2
    · cases h
  · split at h
    case h_2 => cases h
    rename_i p q hp hq
    rw [AV.sc_sound hp hu, AV.sc_sound hq hv]
    exact ofPv_does S M h

theorem sl_nil {t e : TypeId} (he : pv P (underlying t) = some (.slice e)) {q : Addr} {n c : Nat} {x y : Operand} {w : World} :
    (do eqGuard .eql t x y (.slice (some q) n c) (.slice none 0 0); binOp .eql t (.slice (some q) n c) (.slice none 0 0) : Sem Value).run P w = .ok (.bool false) w ∧ (do eqGuard .neq t x y (.slice (some q) n c) (.slice none 0 0); binOp .neq t (.slice (some q) n c) (.slice none 0 0) : Sem Value).run P w = .ok (.bool true) w := by
  have key : (Op.equal t (.slice (some q) n c) (.slice none 0 0)).run P w = .ok false w := by
    show (Op.equalIn (9999 + 1) t _ _).run P w = _
    generalize 9999 = d
    simp [Op.equalIn, pv_run he]
  have k1 : binOp .eql t (.slice (some q) n c) (.slice none 0 0) = (do pure (.bool (← Op.equal t (.slice (some q) n c) (.slice none 0 0)))) := rfl
  have k2 : binOp .neq t (.slice (some q) n c) (.slice none 0 0) = (do pure (.bool (!(← Op.equal t (.slice (some q) n c) (.slice none 0 0))))) := rfl
  have k3 : ∀ op, (eqGuard op t x y (.slice (some q) n c) (.slice none 0 0)).run P w = .ok () w := by
    intro op
    cases op <;> rfl
  constructor
  · simp only [Sem.run_bind, k3, Result.andThen_ok, k1, key, Sem.run_pure]
  · simp only [Sem.run_bind, k3, Result.andThen_ok, k2, key, Sem.run_pure, Bool.not_false]

theorem neSl_sound {a : AV} (h : neSl a = true) (hk : okSl X.H a = true) {v : Value} (hv : RA X a v) : ∃ q n c, v = .slice (some q) n c := by
  unfold neSl at h
  split at h
  · cases hv
    rename_i ha _
    obtain ⟨b, o, e, _⟩ := ha (by simp)
    subst e
    exact ⟨_, _, _, rfl⟩
  · rename_i id o n tot
    obtain ⟨_, _, e, he, _, _, hp⟩ := hv
    have hl : e.len = tot := by
      unfold okSl lenIs at hk
      simp only [he] at hk
      simpa using hk
    obtain ⟨ad, cap, rfl, _, hn, _⟩ := hp hl
    obtain ⟨b, _, rfl⟩ := hn (by simpa using h)
    exact ⟨_, _, _, rfl⟩
  · cases h

theorem isNils_sound {a : AV} (h : isNils a = true) {v : Value} (hv : RA X a v) : v = .slice none 0 0 := by
  unfold isNils at h
  split at h
  · cases hv
    rfl
  · cases h

theorem vbin_does (S : SR X) (M : Dom X) {nid : Nat} {op : BinOp} {t : TypeId} {x y : Operand} {a b : AV} {r : AV × List Ent × List Nat} (h : vbin P X.H op t x y a b = some r) {u v : Value} (hu : RA X a u) (hv : RA X b v) :
    Does P X nid r (do eqGuard op t x y u v; binOp op t u v) := by
  unfold vbin at h
  split at h
  case isFalse => exact vbin0_does S M h hu hv
  rename_i hc
  simp only [Bool.and_eq_true] at hc
  have := isNils_sound hc.2 hv
  subst this
  split at h
  · rename_i e hk he
    obtain ⟨q, n, c, rfl⟩ := neSl_sound hc.1 hk hu
    exact one_does S M h (sl_nil he).1
  · rename_i e hk he
    obtain ⟨q, n, c, rfl⟩ := neSl_sound hc.1 hk hu
    exact one_does S M h (sl_nil he).2
  · cases h

theorem vextract_does (S : SR X) (M : Dom X) {nid : Nat} {a : AV} {i : Nat} {r : AV × List Ent × List Nat} (h : vextract a i = some r) {v : Value} (hv : RA X a v) : Does P X nid r (Instr.extract v i) := by
  unfold vextract at h
  split at h
  case h_2 => cases h
  rename_i l
  obtain ⟨vs, rfl, hl, hr⟩ := hv
  have key : ∀ p, l[i]? = some p → ∃ y, vs[i]? = some y ∧ RP X p y := fun p hp => by
    have hlt : i < vs.length := by rw [← hl]; exact (List.getElem?_eq_some_iff.1 hp).1
    exact ⟨vs[i], List.getElem?_eq_getElem hlt, hr i p _ hp (List.getElem?_eq_getElem hlt)⟩
  split at h
  · rename_i cs hc
    cases h
    obtain ⟨y, hy, hp⟩ := key _ hc
    refine .quiet S M (v := y) ?_ hp
    simp [Instr.extract, hy]
  · rename_i c hc
    cases h
    obtain ⟨y, hy, c', hc', hp⟩ := key _ hc
    cases hc'
    refine .quiet S M (v := y) ?_ hp
    simp [Instr.extract, hy]
  · cases h

theorem mapO_spec {α β : Type} {f : α → Option β} : ∀ {l : List α} {m : List β}, mapO f l = some m → l.length = m.length ∧ ∀ (j : Nat) x, l[j]? = some x → ∃ y, m[j]? = some y ∧ f x = some y
  | [], m, h => by
    simp [mapO] at h
    subst h
    exact ⟨rfl, fun j x hx => by simp at hx⟩
  | x :: r, m, h => by
    unfold mapO at h
    split at h
    · rename_i y l hy hl
      cases h
      obtain ⟨h1, h2⟩ := mapO_spec hl
      refine ⟨by simp [h1], fun j z hz => ?_⟩
      cases j with
      | zero => simp at hz; subst hz; exact ⟨y, rfl, hy⟩
      | succ j => exact h2 j z hz
    · cases h

def RAs (X : Cx) (l : List AV) (vs : List Value) : Prop := l.length = vs.length ∧ ∀ (j : Nat) a v, l[j]? = some a → vs[j]? = some v → RA X a v

theorem capOf_sound {a : AV} {c : CV ⊕ Pt} (h : capOf a = some c) {v : Value} (hv : RA X a v) : RCap X c v := by
  unfold capOf at h
  split at h <;> first | (cases h; exact hv) | cases h

theorem vmakeFunc_does (S : SR X) (M : Dom X) {nid : Nat} {fn : Fn} {first : List Operand} {caps : List AV} {r : AV × List Ent × List Nat} (h : vmakeFunc fn first caps = some r) {vs : List Value} (hv : RAs X caps vs) :
    Does P X nid r (Instr.makeFunc fn #[] vs.toArray) ∧ first = [] := by
  unfold vmakeFunc at h
  split at h
  case h_2 => cases h
  rename_i f
  split at h
  case h_2 => cases h
  rename_i cs hcs
  cases h
  obtain ⟨h1, h2⟩ := mapO_spec hcs
  refine ⟨.quiet S M (v := .func (.func f) #[] vs.toArray) rfl ⟨vs, rfl, by rw [← h1, hv.1], fun j x y hx hy => ?_⟩, rfl⟩
  have hlt : j < caps.length := by rw [h1]; exact (List.getElem?_eq_some_iff.1 hx).1
  obtain ⟨z, hz, hcap⟩ := h2 j _ (List.getElem?_eq_getElem hlt)
  rw [hx] at hz
  cases hz
  exact capOf_sound hcap (hv.2 j _ y (List.getElem?_eq_getElem hlt) hy)

end Go.Proofs.Vm
end

section
/- The value machine's operations that make memory. -/
namespace Go.Proofs.Vm
open Go

variable {P : Program} {X : Cx}

theorem SR.row (S : SR X) (M : Dom X) (n : Nat) (hn : ¬ X.D n) {e : Ent} (he : X.H[n]? = some e) (w1 : World) (h1 : w1.heap = X.w.heap) (hk : Stl X.w w1) (c : Array Value) (ty : TypeId)
    (cap sz : Nat) (hcs : c.size = cap * sz) (hle : 0 < e.len ∧ e.len ≤ cap)
    (hok : match e with
      | .clo l _ => (∀ e ∈ l, e.length = sz) ∧ ∀ i j, i < l.length → j < sz → ∃ v, c[i * sz + j]? = some v ∧ okC X l i j v
      | .opn l _ => (∀ e ∈ l, e.length = sz) ∧ ∀ i j, i < l.length → j < sz → ∃ v, c[i * sz + j]? = some v ∧ okO X l i j v
      | .mp _ => False) :
    ∃ Y, Y.w = w1.alloc (.cells c ty) ∧ Made X Y n 1 ∧ Y.σ n = ⟨some ⟨X.w.heap.size, 0, none⟩, some X.w.heap.size, cap, sz⟩ := by
  refine S.alloc M n hn he _ (by simp [World.alloc, h1]) (fun b hb => ?_) (show Stl X.w (w1.alloc (.cells c ty)) from ⟨hk.1, hk.2.1, hk.2.2⟩) c ty (0, 0) (by simp [World.alloc, h1]) (fun o _ => by simp [World.frozen?, World.alloc, h1]) cap sz hcs hle hok
  simp only [World.alloc, h1]
  rw [Array.getElem?_push, if_neg (by omega)]

theorem ownz_nil (n : Nat) (r : List Value) : ownz n (.slice none 0 0 :: r) = (.sl n 0 0 0 :: (ownz (n + 1) r).1, .clo [] false :: (ownz (n + 1) r).2) := rfl
theorem ownz_cons (n : Nat) (x : Value) (r : List Value) (h : x ≠ .slice none 0 0) : ownz n (x :: r) = (.c (.v x) :: (ownz n r).1, (ownz n r).2) := by
  simp only [ownz]

theorem RCells.cons {X : Cx} {c : Cell} {v : Value} {l : List Cell} {vs : List Value} (h : RCell X c v) (g : RCells X l vs) : RCells X (c :: l) (v :: vs) := by
  refine ⟨by simp [g.1], fun j c' y hc hy => ?_⟩
  cases j with
  | zero => simp at hc hy; subst hc; subst hy; exact h
  | succ j => exact g.2 j c' y hc hy

theorem ownz_does : ∀ (zs : List Value) {X : Cx} (_ : SR X) (_ : Dom X) (n : Nat), (zs.all (·.oneCell') = true) → News X n (ownz n zs).2 →
    ∃ Y, Y.w = X.w ∧ Made X Y n (ownz n zs).2.length ∧ RCells Y (ownz n zs).1 zs
  | [], X, S, M, n, _, _ => ⟨X, rfl, .same S M n, rfl, fun j c y hc => by simp [ownz] at hc⟩
  | x :: r, X, S, M, n, h1, hn => by
    simp only [List.all_cons, Bool.and_eq_true] at h1
    by_cases hx : x = .slice none 0 0
    · subst hx
      rw [ownz_nil] at hn ⊢
      obtain ⟨a1, e', a2, a3⟩ := hn.head
      obtain ⟨g, rfl⟩ := a3.clo
      obtain ⟨X1, hw, hX, hσ, _⟩ := S.nil M n a1 a2 none
      obtain ⟨Y, hw2, hY, hr⟩ := ownz_does r hX.sr hX.dom (n + 1) h1.2 (hn.tail.ext hX (.inl (Nat.le_refl _)))
      refine ⟨Y, hw2.trans hw, ?_, .cons (hY.ext.rcell hX.sr ?_) hr⟩
      · have := hX.trans hY
        rwa [Nat.add_comm] at this
      · exact ⟨rfl, (hX.D n).2 (.inr ⟨Nat.le_refl _, by omega⟩), _, by rw [hX.ext.H]; exact a2, Nat.le_refl _, Nat.zero_le _, fun _ => ⟨none, 0, rfl, Nat.le_refl _, fun h => absurd rfl h, fun _ _ => by rw [hσ]; exact ⟨rfl, rfl⟩⟩⟩
    · rw [ownz_cons n x r hx] at hn ⊢
      obtain ⟨Y, hw2, hY, hr⟩ := ownz_does r S M n h1.2 hn
      exact ⟨Y, hw2, hY, .cons (.v x h1.1) hr⟩

theorem ptr_of_new {X Y : Cx} {n k sz : Nat} (h : Made X Y n k) (hk : 0 < k) {e : Ent} (he : X.H[n]? = some e) (hl : e.len = 1) {b : Nat} (hσ : Y.σ n = ⟨some ⟨b, 0, none⟩, some b, 1, sz⟩) :
    RA Y (.one (.ptr ⟨n, 0, 0, 1⟩)) (.pointer (some ⟨b, 0, none⟩)) :=
  ⟨rfl, (h.D n).2 (.inr ⟨Nat.le_refl _, by omega⟩), e, by rw [h.ext.H]; exact he, by simp [hl], fun _ => ⟨b, by rw [hσ], by simp⟩⟩

theorem box_row {X : Cx} (S : SR X) (M : Dom X) (n : Nat) (hn : ¬ X.D n) {cs : List Cell} {e' : Ent} (he : X.H[n]? = some e') (hle : Le (.opn [cs] false) e') {vs : List Value} (hcs : RCells X cs vs) (ty : TypeId) :
    ∃ Y, Y.w = X.w.alloc (.cells vs.toArray ty) ∧ Made X Y n 1 ∧ RA Y (.one (.ptr ⟨n, 0, 0, 1⟩)) (.pointer (some ⟨X.w.heap.size, 0, none⟩)) := by
  obtain ⟨g, rfl⟩ := hle.opn
  obtain ⟨Y, hw, hY, hσ⟩ := S.row M n hn he X.w rfl (.refl _) vs.toArray ty 1 cs.length (by simp [hcs.1]) (by simp [Ent.len]) ⟨by simp, fun i j hi hj => by
    have hi0 : i = 0 := by simp at hi; exact hi
    subst hi0
    have hj' : j < vs.length := by rw [← hcs.1]; exact hj
    refine ⟨vs[j], by simp, cs, cs[j], rfl, List.getElem?_eq_getElem hj, hcs.2 j _ _ (List.getElem?_eq_getElem hj) (List.getElem?_eq_getElem hj')⟩⟩
  exact ⟨Y, hw, hY, ptr_of_new hY (by omega) he (by simp [Ent.len]) hσ⟩

theorem valloc_does (S : SR X) (M : Dom X) {nid : Nat} {t : TypeId} {r : AV × List Ent × List Nat} (h : valloc P nid t = some r) {old : Value} : Does P X nid r (Instr.alloc t true old) := by
  unfold valloc at h
  split at h
  case h_2 => cases h
  rename_i z hz
  split at h
  case isFalse => cases h
  rename_i h1
  dsimp only at h
  cases h
  intro hn _
  obtain ⟨a1, e', a2, a3⟩ := hn.head
  obtain ⟨X1, hw1, hX1, hcs⟩ := ownz_does z.cells.toList S M (nid + 1) h1 hn.tail
  have a1' : ¬ X1.D nid := fun hd => (hX1.D nid).1 hd |>.elim a1 (by omega)
  obtain ⟨Y, hw, hY, hp⟩ := box_row hX1.sr hX1.dom nid a1' (by rw [hX1.ext.H]; exact a2) a3 hcs t
  refine ⟨_, Y, ?_, ?_, hp⟩
  · rw [hw, hw1]
    simp [Instr.alloc, pv_run hz, newVar, newRow]
  · have := hX1.trans' hY
    rwa [Nat.add_comm] at this

theorem cells_of {X : Cx} {a : AV} {cs : List Cell} (h : cellsOf? a = some cs) {v : Value} (hv : RA X a v) : ∃ vs : List Value, v.cells = vs.toArray ∧ RCells X cs vs := by
  unfold cellsOf? at h
  split at h
  · cases h
    have := RCell.one hv
    refine ⟨[v], ?_, rfl, fun j c y hc hy => ?_⟩
    · cases v <;> first | rfl | (simp [Value.oneCell'] at this)
    · cases j with
      | zero => simp at hc hy; subst hc; subst hy; exact hv
      | succ j => simp at hc
  · cases h
    obtain ⟨vs, rfl, hvs⟩ := hv
    exact ⟨vs, rfl, hvs⟩
  · cases h

theorem vbox_does (S : SR X) (M : Dom X) {nid : Nat} {t : TypeId} {a : AV} {r : AV × List Ent × List Nat} (h : vbox nid a = some r) {v : Value} (hv : RA X a v) : Does P X nid r (Instr.box t v) := by
  have h' : ∃ cs, cellsOf? a = some cs ∧ r = (.one (.ptr ⟨nid, 0, 0, 1⟩), [.opn [cs] false], []) := by
    unfold vbox at h
    cases a <;> cases h <;> exact ⟨_, rfl, rfl⟩
  obtain ⟨cs, hc, rfl⟩ := h'
  obtain ⟨vs, hvs, hcs⟩ := cells_of hc hv
  intro hn _
  obtain ⟨a1, e', a2, a3⟩ := hn.head
  obtain ⟨Y, hw, hY, hp⟩ := box_row S M nid a1 a2 a3 hcs t
  refine ⟨_, Y, ?_, hY, hp⟩
  rw [hw]
  simp [Instr.box, newVar, newRow, hvs]

theorem nrm_rc {I : Nat → Prop} {w : World} {x : Value} (h : x.oneCell' = true) : RC I w (nrm x) x := by
  unfold nrm
  split
  · exact .arr [] none 0 0 (fun _ _ => undef) (by simp) (by simp) (fun h => absurd rfl h) (fun i j e x h => by simp at h)
  · exact .v x h

theorem zcells_rc {I : Nat → Prop} {w : World} {z : Value} (h : z.cells.toList.all (·.oneCell') = true) {j : Nat} {x : CV} (hx : (zcells z)[j]? = some x) : ∃ y, z.cells[j]? = some y ∧ RC I w x y := by
  unfold zcells at hx
  rw [List.getElem?_map] at hx
  obtain ⟨y, hy, rfl⟩ := Option.map_eq_some_iff.1 hx
  refine ⟨y, by simpa using hy, nrm_rc ?_⟩
  have := List.all_eq_true.1 h y (List.mem_of_getElem? hy)
  exact this

theorem sl_new {X Y : Cx} {n k l cap sz : Nat} (h : Made X Y n k) (hk : 0 < k) {e : Ent} (he : X.H[n]? = some e) (hl : e.len = l) (hc : l ≤ cap) {b : Nat} (hσ : Y.σ n = ⟨some ⟨b, 0, none⟩, some b, cap, sz⟩) :
    RA Y (.one (.sl n 0 l l)) (.slice (some ⟨b, 0, none⟩) l cap) :=
  ⟨rfl, (h.D n).2 (.inr ⟨Nat.le_refl _, by omega⟩), e, by rw [h.ext.H]; exact he, by omega, by omega, fun _ => ⟨_, _, rfl, hc, fun _ => ⟨b, by rw [hσ], by simp⟩, fun _ _ => by rw [hσ]; exact ⟨rfl, rfl⟩⟩⟩

theorem typeInfo_run {t : TypeId} {i : TypeInfo} (h : pv P (typeInfo t) = some i) : P.info? t = some i := by
  unfold typeInfo at h
  simp only [Bind.bind, Sem.bind, program, pv] at h
  split at h
  · rename_i j hj
    cases h
    exact hj
  · simp [stuck, pv] at h

theorem zero_run {t : TypeId} {i : TypeInfo} {z : Value} (h : P.info? t = some i) (hz : pv P (zeroValue t) = some z) : i.zero = some z := by
  have hr := pv_run hz (w := default)
  cases hi : i.zero with
  | none => simp [zeroValue, typeInfo, h, hi, unsupported] at hr
  | some z' => simp [zeroValue, typeInfo, h, hi] at hr; rw [hr]

theorem elemOf_under {t e : TypeId} (h : elemOfSlice P t = some e) : P.underlying t = some (.slice e) := by
  have hr := elemOf_run h default
  unfold underlying at hr
  simp at hr
  cases hu : P.underlying t with
  | none => simp [hu, stuck] at hr
  | some d => simp [hu] at hr; rw [hr]

theorem vmakeSlice_does (S : SR X) (M : Dom X) {nest : Bool} {nid : Nat} {t : TypeId} {l c : AV} {r : AV × List Ent × List Nat} (h : vmakeSlice P nest nid t l c = some r) {u v : Value} (hu : RA X l u) (hv : RA X c v) :
    Does P X nid r (Instr.makeSlice t u v) := by
  unfold vmakeSlice at h
  split at h
  case h_2 => cases h
  rename_i e he
  split at h
  case h_2 => cases h
  rename_i i z kl l kc c hi hz
  split at h
  case isFalse => cases h
  rename_i hc
  obtain ⟨h0, h1, h2, h3, h4, h5⟩ := hc
  cases h
  cases hu
  cases hv
  intro hn _
  obtain ⟨a1, e', a2, a3⟩ := hn.head
  have hii := typeInfo_run hi
  have hzz := zero_run hii hz
  unfold small at h2
  simp only [decide_eq_true_eq] at h2
  have hbytes : (i.bytes : Int) * c ≤ 281474976710656 := by
    have : ((i.bytes * c.toNat : Nat) : Int) ≤ 140737488355328 := by omega
    rw [Int.natCast_mul, Int.toNat_of_nonneg (by omega)] at this
    omega
  have hrun := run_make (P := P) X.w t e i z (elemOf_under he) hii hzz kl kc l c h0 (by omega) hbytes (by omega)
  have hms : (madeCells z.cells (c.toNat * i.size)).size = c.toNat * i.size := size_madeCells _ _
  have hzl : (zcells z).length = i.size := by simp [zcells, h4]
  have cell : ∀ a j, a < l.toNat → j < i.size → ∃ y x, (madeCells z.cells (c.toNat * i.size))[a * i.size + j]? = some y ∧ (zcells z)[j]? = some x ∧ RC X.I X.w x y := by
    intro a j ha hj
    have hj' : j < (zcells z).length := by omega
    obtain ⟨y, hy, hrc⟩ := zcells_rc (I := X.I) (w := X.w) h5 (List.getElem?_eq_getElem hj')
    have hlt : a * i.size + j < c.toNat * i.size := by
      calc a * i.size + j < a * i.size + i.size := by omega
        _ = (a + 1) * i.size := by rw [Nat.add_mul, Nat.one_mul]
        _ ≤ c.toNat * i.size := Nat.mul_le_mul_right _ (by omega)
    refine ⟨y, _, ?_, List.getElem?_eq_getElem hj', hrc⟩
    have hmod : (a * i.size + j) % z.cells.size = j := by rw [h4, Nat.mul_comm, Nat.mul_add_mod, Nat.mod_eq_of_lt hj]
    rw [Array.getElem?_eq_getElem (by rw [hms]; exact hlt)]
    simp only [madeCells, Array.getElem_map, Array.getElem_range, hmod]
    rw [getElem!_def, hy]
  by_cases hb : (nest && isSliceT P e && decide (l.toNat ≠ 0)) = true
  · rw [if_pos hb] at a3
    obtain ⟨g, rfl⟩ := a3.opn
    have hl0 : l.toNat ≠ 0 := by
      simp only [Bool.and_eq_true, decide_eq_true_eq] at hb
      exact hb.2
    obtain ⟨Y, hw, hY, hσ⟩ := S.row M nid a1 a2 X.w rfl (.refl _) (madeCells z.cells (c.toNat * i.size)) e c.toNat i.size hms (by simp [Ent.len]; omega)
      ⟨fun x hx => by rw [List.eq_of_mem_replicate hx]; simp [hzl], fun a j ha hj => by
        rw [List.length_replicate] at ha
        obtain ⟨y, x, e1, e2, e3⟩ := cell a j ha hj
        exact ⟨y, e1, _, .c x, List.getElem?_replicate_of_lt ha, by rw [List.getElem?_map, e2]; rfl, e3⟩⟩
    refine ⟨_, Y, by rw [hw]; exact hrun, by simpa using hY, sl_new hY (by simp) a2 (by simp [Ent.len]) (by omega) hσ⟩
  rw [if_neg hb] at a3
  obtain ⟨g, rfl⟩ := a3.clo
  by_cases hl0 : l.toNat = 0
  · rw [hl0] at a2 hrun ⊢
    obtain ⟨Y, hw, hY, hσ, _⟩ := S.nil' M nid a1 a2 (some ⟨X.w.heap.size, 0, none⟩) (X.w.alloc (.cells (madeCells z.cells (c.toNat * i.size)) e)) (by show _ ≤ (X.w.heap.push _).size; simp) (fun b hb => by
      show (X.w.heap.push _)[b]? = _
      rw [Array.getElem?_push, if_neg (by omega)]) ⟨⟨rfl, rfl⟩, rfl, Nat.le_refl _⟩
    refine ⟨_, Y, by rw [hw]; exact hrun, hY, rfl, (hY.D nid).2 (.inr ⟨Nat.le_refl _, by simp⟩), _, by rw [hY.ext.H]; exact a2, by omega, by simp [Ent.len], fun _ => ⟨_, _, rfl, by omega, fun h => absurd rfl h, fun _ _ => by rw [hσ]; exact ⟨rfl, by simp; omega⟩⟩⟩
  obtain ⟨Y, hw, hY, hσ⟩ := S.row M nid a1 a2 X.w rfl (.refl _) (madeCells z.cells (c.toNat * i.size)) e c.toNat i.size hms (by simp [Ent.len]; omega)
    ⟨fun x hx => by rw [List.eq_of_mem_replicate hx, hzl], fun a j ha hj => by
      rw [List.length_replicate] at ha
      obtain ⟨y, x, e1, e2, e3⟩ := cell a j ha hj
      exact ⟨y, e1, _, x, List.getElem?_replicate_of_lt ha, e2, e3⟩⟩
  refine ⟨_, Y, by rw [hw]; exact hrun, hY, sl_new hY (by simp) a2 (by simp [Ent.len]) (by omega) hσ⟩

theorem vmakeRows_does (S : SR X) (M : Dom X) {nid : Nat} {t : TypeId} {l c : AV} {r : AV × List Ent × List Nat} (h : vmakeRows P nid t l c = some r) {u v : Value} (hu : RA X l u) (hv : RA X c v) :
    Does P X nid r (Instr.makeSlice t u v) := by
  unfold vmakeRows at h
  split at h
  case h_2 => cases h
  rename_i e he
  split at h
  case h_2 => cases h
  rename_i i kl l kc c hi hz
  split at h
  case isFalse => cases h
  rename_i hc
  obtain ⟨h0, h1, h2, h3, h4⟩ := hc
  cases h
  cases hu
  cases hv
  intro hn _
  obtain ⟨a1, e', a2, a3⟩ := hn.head
  obtain ⟨g, rfl⟩ := a3.opn
  have hii := typeInfo_run hi
  have hzz := zero_run hii hz
  unfold small at h2
  simp only [decide_eq_true_eq] at h2
  have hbytes : (i.bytes : Int) * c ≤ 281474976710656 := by
    have : ((i.bytes * c.toNat : Nat) : Int) ≤ 140737488355328 := by omega
    rw [Int.natCast_mul, Int.toNat_of_nonneg (by omega)] at this
    omega
  have hrun := run_make (P := P) X.w t e i (.slice none 0 0) (elemOf_under he) hii hzz kl kc l c (by omega) (by omega) hbytes (by omega)
  have hms : (madeCells (Value.slice none 0 0).cells (c.toNat * i.size)).size = c.toNat * i.size := size_madeCells _ _
  obtain ⟨X1, hw1, hX1, hcs⟩ := ownz_does (List.replicate l.toNat (.slice none 0 0)) S M (nid + 1) (by simp [Value.oneCell']) hn.tail
  have a1' : ¬ X1.D nid := fun hd => (hX1.D nid).1 hd |>.elim a1 (by omega)
  have hlen : (ownz (nid + 1) (List.replicate l.toNat (Value.slice none 0 0))).1.length = l.toNat := by rw [hcs.1, List.length_replicate]
  obtain ⟨Y, hw, hY, hσ⟩ := hX1.sr.row hX1.dom nid a1' (e := .opn ((ownz (nid + 1) (List.replicate l.toNat (Value.slice none 0 0))).1.map fun c => [c]) g) (by rw [hX1.ext.H]; exact a2) X1.w rfl (.refl _) (madeCells (Value.slice none 0 0).cells (c.toNat * i.size)) e c.toNat i.size hms (by simp [Ent.len, hlen]; omega)
    ⟨fun x hx => by obtain ⟨y, _, rfl⟩ := List.mem_map.1 hx; rw [h4]; rfl, fun a j ha hj => by
      rw [List.length_map, hlen] at ha
      rw [h4] at hj
      obtain rfl : j = 0 := by omega
      refine ⟨.slice none 0 0, ?_, [(ownz (nid + 1) (List.replicate l.toNat (Value.slice none 0 0))).1[a]'(by rw [hlen]; exact ha)], _, by rw [List.getElem?_map, List.getElem?_eq_getElem (by rw [hlen]; exact ha)]; rfl, rfl, hcs.2 a _ _ (List.getElem?_eq_getElem (by rw [hlen]; exact ha)) (List.getElem?_replicate_of_lt ha)⟩
      have hlt : a * i.size + 0 < c.toNat * i.size := by rw [h4]; omega
      rw [Array.getElem?_eq_getElem (by rw [hms]; exact hlt)]
      simp only [madeCells, Array.getElem_map, Array.getElem_range]
      have hc1 : (Value.slice none 0 0).cells = #[Value.slice none 0 0] := rfl
      rw [hc1]
      simp [Nat.mod_one]⟩
  refine ⟨_, Y, by rw [hw, hw1]; exact hrun, ?_, ?_⟩
  · have := hX1.trans' hY
    rw [Nat.add_comm] at this
    exact this
  · have := sl_new hY (by omega) (e := .opn ((ownz (nid + 1) (List.replicate l.toNat (Value.slice none 0 0))).1.map fun c => [c]) g) (by rw [hX1.ext.H]; exact a2) (l := l.toNat) (by simp [Ent.len, hlen]) (by omega) hσ
    rw [hw1] at this
    exact this
theorem vmakeN_does (S : SR X) (M : Dom X) {nest : Bool} {nid : Nat} {t : TypeId} {l c : AV} {r : AV × List Ent × List Nat} (h : vmakeN P nest nid t l c = some r) {u v : Value} (hu : RA X l u) (hv : RA X c v) :
    Does P X nid r (Instr.makeSlice t u v) := by
  unfold vmakeN at h
  split at h
  · exact vmakeRows_does S M h hu hv
  · exact vmakeSlice_does S M h hu hv

end Go.Proofs.Vm
end

section
/- What is given up to be closed. -/
namespace Go.Proofs.Vm
open Go

variable {P : Program} {X : Cx}

theorem row_all {s : Sl} {n : Nat} {fz : Bool} {ok : Nat → Nat → Value → Prop} (h : Row X s n fz ok) {b : Nat} (hb : s.blk = some b) :
    ∃ F : Nat → Nat → Value, ∀ i j, i < n → j < s.sz → X.w.cell? ⟨b, i * s.sz + j, none⟩ = some (F i j) ∧ ok i j (F i j) := by
  rcases h with ⟨h0, _⟩ | ⟨b', c, ty, fr, h1, _, h3, _, _, _, _, _, _, h10⟩
  · exact ⟨fun _ _ => undef, fun i j hi => by omega⟩
  · rw [h1] at hb
    cases hb
    refine ⟨fun i j => (c[i * s.sz + j]?).getD undef, fun i j hi hj => ?_⟩
    obtain ⟨v, hv, ho⟩ := h10 i j hi hj
    simp only [World.cell?, h3, hv, Option.getD_some]
    exact ⟨rfl, ho⟩

/-- The blocks that are given up with 'ms'. -/
def Gives (X : Cx) (J : Nat → Prop) (ms : List Nat) : Prop := ∀ id, id ∈ ms → X.D id → ∀ e, X.H[id]? = some e → (∀ l, e ≠ .mp l) → ∀ b, (X.σ id).blk = some b → J b

theorem Gives.sub {J : Nat → Prop} {ms ns : List Nat} (h : Gives X J ms) (g : ∀ id, id ∈ ns → id ∈ ms) : Gives X J ns := fun id hi hd e he hm b hb => h id (g id hi) hd e he hm b hb

theorem fzc_sound (S : SR X) {J : Nat → Prop} (hI : ∀ b, X.I b → J b) : ∀ (n : Nat) {c : Cell} {x : CV} {v : Value}, fzc n X.H c = some x → RCell X c v → Gives X J (rch n X.H c) → RC J X.w x v := by
  intro n
  induction n with
  | zero => intro c x v h; cases h
  | succ n ih =>
    have hptr : ∀ {p : Pt} {x : CV} {v : Value}, (match cellsAt X.H p with | some cs => (mapO (fzc n X.H) cs).map CV.cptr | none => none) = some x → RPt X p v →
        Gives X J (p.id :: (match cellsAt X.H p with | some cs => (cs.map (rch n X.H)).flatten | none => [])) → RC J X.w x v := by
      intro p x v h hv hg
      split at h
      case h_2 => cases h
      rename_i cs hcs
      simp only [hcs] at hg
      obtain ⟨xs, hxs, rfl⟩ := Option.map_eq_some_iff.1 h
      have hv' := hv
      obtain ⟨b, o, vs, rfl, hr, hcell⟩ := cellsAt_sound S hcs hv
      obtain ⟨_, hd, e, he, _, hp⟩ := hv'
      obtain ⟨hl, hm⟩ := mapO_spec hxs
      have hb : J b := by
        have hl' : e.len = p.tot ∧ ∀ l, e ≠ .mp l := by
          unfold cellsAt at hcs
          rw [he] at hcs
          cases e with
          | mp l => cases hcs
          | clo l f => dsimp only at hcs; split at hcs; (· exact ⟨by assumption, fun l h => by cases h⟩); (· cases hcs)
          | opn l f => dsimp only at hcs; split at hcs; (· exact ⟨by assumption, fun l h => by cases h⟩); (· cases hcs)
        obtain ⟨b', hb', hv''⟩ := hp hl'.1
        cases hv''
        exact hg p.id (by simp) hd e he hl'.2 _ hb'
      refine .cptr xs b o (fun j => vs.getD j undef) hb (fun j hj => ?_) fun j x hx => ?_
      · have hj' : j < vs.length := by rw [← hr.1, hl]; exact hj
        have := hcell j vs[j] (List.getElem?_eq_getElem hj')
        simp only [List.getD_eq_getElem?_getD, List.getElem?_eq_getElem hj', Option.getD_some]
        exact this
      · have hj : j < cs.length := by rw [hl]; exact (List.getElem?_eq_some_iff.1 hx).1
        have hj' : j < vs.length := by rw [← hr.1]; exact hj
        obtain ⟨y, hy, hf⟩ := hm j _ (List.getElem?_eq_getElem hj)
        rw [hx] at hy
        cases hy
        simp only [List.getD_eq_getElem?_getD, List.getElem?_eq_getElem hj', Option.getD_some]
        refine ih hf (hr.2 j _ _ (List.getElem?_eq_getElem hj) (List.getElem?_eq_getElem hj')) (hg.sub fun id hi => ?_)
        exact List.mem_cons_of_mem _ (List.mem_flatten.2 ⟨_, List.mem_map.2 ⟨_, List.getElem_mem hj, rfl⟩, hi⟩)
    intro c x v h hv hg
    unfold fzc at h
    split at h
    · cases h
      cases hv with
      | v x h1 => exact nrm_rc h1
    · cases h
      exact hv.mono hI fun _ _ => rfl
    · rename_i id o m tot
      obtain ⟨_, hd, e, he, hle, hle2, hp⟩ := hv
      simp only [rch, he] at hg
      split at h
      · rename_i l f he'
        rw [he] at he'
        cases he'
        split at h
        case isFalse => cases h
        rename_i hl
        cases h
        obtain ⟨ad, cap, rfl, hmc, had, _⟩ := hp hl
        have hent := S.ent _ _ hd he
        have hlen : ((l.drop o).take m).length = m := by simp; omega
        suffices key : RC J X.w (.arr ((l.drop o).take m)) (.slice ad ((l.drop o).take m).length cap) by rw [hlen] at key; exact key
        by_cases hm : m = 0
        · exact .arr _ _ _ (X.σ id).sz (fun _ _ => undef) (by omega) (fun e h => hent.1 e (List.mem_of_mem_drop (List.mem_of_mem_take h))) (fun hne => absurd (List.eq_nil_of_length_eq_zero (by omega)) hne)
            (fun i j e x hi => by rw [hm] at hi; simp at hi)
        · obtain ⟨b, hb, rfl⟩ := had hm
          obtain ⟨F, hF⟩ := row_all hent.2 hb
          refine .arr _ _ _ (X.σ id).sz (fun i j => F (o + i) j) (by omega) (fun e h => hent.1 e (List.mem_of_mem_drop (List.mem_of_mem_take h))) (fun _ => ⟨b, _, rfl, hg id (by simp) hd _ he (fun l h => by cases h) b hb, fun i j hi hj => ?_⟩) fun i j e x hi hx => ?_
          · rw [hlen] at hi
            rw [← (hF (o + i) j (by omega) hj).1, Nat.add_mul, Nat.add_assoc]
          · rw [List.getElem?_take] at hi
            split at hi
            case isFalse => cases hi
            rw [List.getElem?_drop] at hi
            have hlt := (List.getElem?_eq_some_iff.1 hi).1
            have hj : j < (X.σ id).sz := by rw [← hent.1 e (List.mem_of_getElem? hi)]; exact (List.getElem?_eq_some_iff.1 hx).1
            obtain ⟨_, e', x', h1, h2, h3⟩ := hF (o + i) j hlt hj
            rw [hi] at h1; cases h1
            rw [hx] at h2; cases h2
            exact h3.mono hI fun _ _ => rfl
      · rename_i l f he'
        rw [he] at he'
        cases he'
        split at h
        case isFalse => cases h
        rename_i hl
        obtain ⟨xs, hxs, rfl⟩ := Option.map_eq_some_iff.1 h
        obtain ⟨ad, cap, rfl, hmc, had, _⟩ := hp hl
        have hent := S.ent _ _ hd he
        obtain ⟨hxl, hxm⟩ := mapO_spec hxs
        have hlen : ((l.drop o).take m).length = m := by simp; omega
        have hlx : xs.length = m := by rw [← hxl, hlen]
        have hel : ∀ (i : Nat) e, xs[i]? = some e → ∃ cs, l[o + i]? = some cs ∧ mapO (fzc n X.H) cs = some e ∧ i < m := by
          intro i e hi
          have hi' : i < ((l.drop o).take m).length := by rw [hxl]; exact (List.getElem?_eq_some_iff.1 hi).1
          obtain ⟨y, hy, hf⟩ := hxm i _ (List.getElem?_eq_getElem hi')
          rw [hi] at hy
          cases hy
          refine ⟨_, ?_, hf, by omega⟩
          have := List.getElem?_eq_getElem hi'
          rw [List.getElem?_take, if_pos (by omega), List.getElem?_drop] at this
          exact this
        have hsz : ∀ e ∈ xs, e.length = (X.σ id).sz := by
          intro e hm
          obtain ⟨i, hi⟩ := List.getElem?_of_mem hm
          obtain ⟨cs, hcs, hf, _⟩ := hel i e hi
          rw [← (mapO_spec hf).1]
          exact hent.1 cs (List.mem_of_getElem? hcs)
        rw [← hlx]
        by_cases hm : m = 0
        · have : xs = [] := List.eq_nil_of_length_eq_zero (by omega)
          subst this
          exact .arr [] _ _ 0 (fun _ _ => undef) (by simp) (fun e h => by cases h) (fun hne => absurd rfl hne) (fun i j e x hi => by simp at hi)
        · obtain ⟨b, hb, rfl⟩ := had hm
          obtain ⟨F, hF⟩ := row_all hent.2 hb
          refine .arr _ _ _ (X.σ id).sz (fun i j => F (o + i) j) (by omega) hsz (fun _ => ⟨b, _, rfl, hg id (by simp) hd _ he (fun l h => by cases h) b hb, fun i j hi hj => ?_⟩) fun i j e x hi hx => ?_
          · rw [← (hF (o + i) j (by omega) hj).1, Nat.add_mul, Nat.add_assoc]
          · obtain ⟨cs, hcs, hf, him⟩ := hel i e hi
            have hlt := (List.getElem?_eq_some_iff.1 hcs).1
            have hj : j < (X.σ id).sz := by rw [← hsz e (List.mem_of_getElem? hi)]; exact (List.getElem?_eq_some_iff.1 hx).1
            obtain ⟨_, e', x', h1, h2, h3⟩ := hF (o + i) j hlt hj
            rw [hcs] at h1; cases h1
            obtain ⟨y, hy, hfy⟩ := (mapO_spec hf).2 j _ h2
            rw [hx] at hy
            cases hy
            refine ih hfy h3 (hg.sub fun id' hi' => ?_)
            refine List.mem_cons_of_mem _ (List.mem_flatten.2 ⟨_, List.mem_map.2 ⟨cs, (by
              refine List.mem_of_getElem? (i := i) ?_
              rw [List.getElem?_take, if_pos him, List.getElem?_drop]
              exact hcs), rfl⟩, List.mem_flatten.2 ⟨_, List.mem_map.2 ⟨_, List.mem_of_getElem? h2, rfl⟩, hi'⟩⟩)
      · cases h
    · exact hptr h hv hg
    · rename_i f caps
      obtain ⟨vs, rfl, hl, hr⟩ := hv
      obtain ⟨xs, hxs, rfl⟩ := Option.map_eq_some_iff.1 h
      obtain ⟨hxl, hxm⟩ := mapO_spec hxs
      refine .fn f xs vs (by rw [← hxl, hl]) fun j x y hx hy => ?_
      have hj : j < caps.length := by rw [hxl]; exact (List.getElem?_eq_some_iff.1 hx).1
      obtain ⟨z, hz, hf⟩ := hxm j _ (List.getElem?_eq_getElem hj)
      rw [hx] at hz
      cases hz
      have hc := hr j _ y (List.getElem?_eq_getElem hj) hy
      generalize hcj : caps[j] = cj at hf hc
      cases cj with
      | inl x0 =>
        cases hf
        exact RC.mono hI (fun _ _ => rfl) hc
      | inr p =>
        refine ih hf hc (hg.sub fun id hi => ?_)
        simp only [rch]
        exact List.mem_flatten.2 ⟨_, List.mem_map.2 ⟨.inr p, hcj ▸ List.getElem_mem hj, rfl⟩, hi⟩
    · cases h
      obtain ⟨_, _, _, _, _, rfl⟩ := hv
      exact .top _ rfl

end Go.Proofs.Vm
end

section
/- Struct and slice literals. -/
namespace Go.Proofs.Vm
open Go

variable {P : Program} {X : Cx}

theorem Given.gives (S : SR X) {ms : List Nat} (h : Given X ms) : Gives X X.I ms := fun id hi hd e0 he0 hm b hb => by
  obtain ⟨e, he, hf⟩ := h id hi hd
  rw [he0] at he
  cases he
  have hent := S.ent id e0 hd he0
  have row : ∀ {n : Nat} {fz : Bool} {ok : Nat → Nat → Value → Prop}, Row X (X.σ id) n fz ok → fz = true → X.I b := by
    intro n fz ok hr hz
    rcases hr with ⟨_, h2, _⟩ | ⟨b', c, ty, fr, h1, _, _, _, _, _, _, h8, _⟩
    · rw [h2] at hb; cases hb
    · rw [h1] at hb; cases hb; exact h8 hz
  cases e0 with
  | clo l f => exact row hent.2 hf
  | opn l f => exact row hent.2 hf
  | mp l => exact absurd rfl (hm l)

inductive RParts (X : Cx) : List (Nat × List Cell) → List (Nat × Value) → Prop
  | nil : RParts X [] []
  | cons {i : Nat} {cs : List Cell} {v : Value} {us : List Value} {ps : List (Nat × List Cell)} {qs : List (Nat × Value)} (h : v.cells = us.toArray) (hr : RCells X cs us) (g : RParts X ps qs) : RParts X ((i, cs) :: ps) ((i, v) :: qs)

theorem partsOf_sound {ρ : Operand → Option AV} {ρ' : Operand → Value} (hρ : ∀ x a, ρ x = some a → RA X a (ρ' x)) : ∀ {parts : List (Nat × Operand)} {ps : List (Nat × List Cell)}, partsOf ρ parts = some ps → RParts X ps (parts.map fun p => (p.1, ρ' p.2))
  | [], ps, h => by
    simp [partsOf] at h
    subst h
    exact .nil
  | (i, x) :: r, ps, h => by
    unfold partsOf at h
    split at h
    case h_2 => cases h
    rename_i a l ha hl
    split at h
    case h_2 => cases h
    rename_i cs hcs
    cases h
    obtain ⟨us, h1, h2⟩ := cells_of hcs (hρ x a ha)
    exact .cons h1 h2 (partsOf_sound hρ hl)

theorem wr_length {α : Type} : ∀ (x l : List α) (o : Nat), (wr l o x).length = l.length
  | [], l, o => rfl
  | y :: r, l, o => by rw [wr, wr_length r]; simp

theorem wr_get {α : Type} : ∀ (x l : List α) (o k : Nat), o + x.length ≤ l.length → (wr l o x)[k]? = if o ≤ k ∧ k < o + x.length then x[k - o]? else l[k]?
  | [], l, o, k, _ => by simp [wr]; omega
  | y :: r, l, o, k, h => by
    simp only [List.length_cons] at h
    rw [wr, wr_get r (l.set o y) (o + 1) k (by simp; omega)]
    by_cases hk : k = o
    · subst hk
      rw [if_neg (by omega), if_pos (by simp), List.getElem?_set_self (by omega)]
      simp
    · rw [List.getElem?_set_ne (by omega)]
      by_cases h2 : o ≤ k ∧ k < o + (y :: r).length
      · rw [if_pos h2, if_pos (by simp at h2; omega)]
        have : k - o = (k - (o + 1)) + 1 := by omega
        rw [this, List.getElem?_cons_succ]
      · rw [if_neg h2, if_neg (by simp at h2; omega)]

theorem foldl_wr (us : List Value) (vs : List Value) (off : Nat) : us.toArray.zipIdx.foldl (fun (cs : Array Value) (p : Value × Nat) => cs.setIfInBounds (off + p.2) p.1) vs.toArray = (wr vs off us).toArray := by
  rw [← Array.foldl_toList]
  have key : ∀ (us vs : List Value) (k : Nat), (us.zipIdx k).foldl (fun (cs : Array Value) (p : Value × Nat) => cs.setIfInBounds (off + p.2) p.1) vs.toArray = (wr vs (off + k) us).toArray := by
    intro us
    induction us with
    | nil => intro vs k; rfl
    | cons u us ih =>
      intro vs k
      simp only [List.zipIdx_cons, List.foldl_cons, List.setIfInBounds_toArray]
      rw [ih, wr]
      rfl
  have := key us vs 0
  simpa using this

theorem RCells.wr {cs c : List Cell} {vs us : List Value} (h : RCells X cs vs) (g : RCells X c us) (o : Nat) (ho : o + c.length ≤ cs.length) : RCells X (wr cs o c) (wr vs o us) := by
  refine ⟨by rw [wr_length, wr_length, h.1], fun j x y hx hy => ?_⟩
  rw [wr_get _ _ _ _ ho] at hx
  rw [wr_get _ _ _ _ (by rw [← g.1, ← h.1]; exact ho)] at hy
  rw [← g.1] at hy
  split at hx
  · rename_i hk
    rw [if_pos hk] at hy
    exact g.2 _ x y hx hy
  · rename_i hk
    rw [if_neg hk] at hy
    exact h.2 _ x y hx hy

theorem fill_sound {place : Nat → Option (Nat × Nat)} : ∀ {ps : List (Nat × List Cell)} {qs : List (Nat × Value)} {cs out : List Cell} {vs : List Value}, RParts X ps qs → vfill place cs ps = some out → RCells X cs vs →
    ∃ vs' : List Value, Instr.fill place vs.toArray qs = some vs'.toArray ∧ RCells X out vs' := by
  intro ps qs cs out vs hp
  induction hp generalizing cs out vs with
  | nil =>
    intro h hv
    cases h
    exact ⟨vs, rfl, hv⟩
  | @cons i c v us ps qs h1 h2 g ih =>
    intro h hv
    unfold vfill at h
    split at h
    case h_2 => cases h
    rename_i off sz hpl
    split at h
    case isFalse => cases h
    rename_i hc
    obtain ⟨vs', hf, hr⟩ := ih h (hv.wr h2 off (by rw [hc.1]; exact hc.2))
    refine ⟨vs', ?_, hr⟩
    unfold Instr.fill
    rw [hpl]
    have e1 : us.length = sz := by rw [← h2.1, hc.1]
    have e2 : ¬ (off + us.length > vs.length) := by have := hv.1; omega
    simp only [h1, List.size_toArray, e1, ne_eq, not_true_eq_false, decide_false, Bool.false_or]
    rw [e1] at e2
    simp only [e2, decide_false, Bool.false_eq_true, if_false]
    rw [← hf, ← foldl_wr]

theorem places_run : ∀ {fields : List Field} {pl : List (Nat × Nat)}, placesOf P fields = some pl → ∀ w, (fields.mapM fun f => (do pure (f.offset, ← sizeOf f.type) : Sem (Nat × Nat))).run P w = .ok pl w
  | [], pl, h, w => by
    simp [placesOf] at h
    subst h
    rfl
  | f :: r, pl, h, w => by
    unfold placesOf at h
    split at h
    case h_2 => cases h
    rename_i n l hn hl
    cases h
    have ih := places_run hl w
    simp only [bind_pure_comp] at ih
    simp [List.mapM_cons, pv_run hn, ih]

theorem vbuild_does (S : SR X) (M : Dom X) {nid : Nat} {ρ : Operand → Option AV} {ρ' : Operand → Value} (hρ : ∀ x a, ρ x = some a → RA X a (ρ' x)) {t : TypeId} {parts : List (Nat × Operand)} {r : AV × List Ent × List Nat}
    (h : vbuild P nid ρ t parts = some r) : Does P X nid r (Instr.build t (parts.map fun p => (p.1, ρ' p.2)).toArray) := by
  unfold vbuild at h
  split at h
  case h_2 => cases h
  rename_i z fields ps hz ht hps
  split at h
  case h_2 => cases h
  rename_i pl hpl
  split at h
  case isFalse => cases h
  rename_i h1
  dsimp only at h
  split at h
  case h_2 => cases h
  rename_i cells hc
  cases h
  intro hn _
  obtain ⟨Y, hw, hY, hcs⟩ := ownz_does z.cells.toList S M nid h1 hn
  have hp := partsOf_sound (X := Y) (fun x a ha => hY.ext.ra S (hρ x a ha)) hps
  obtain ⟨vs', hf, hr⟩ := fill_sound hp hc hcs
  refine ⟨.agg vs'.toArray, Y, ?_, hY, vs', rfl, hr⟩
  have hplace : ∀ i : Nat, pl.toArray[i]? = pl[i]? := fun i => by simp
  rw [hw]
  simp only [Instr.build, Sem.run_bind, pv_run hz, pv_run ht, Result.andThen_ok, Array.mapM_eq_mapM_toList, Sem.run_map, places_run hpl, hplace]
  rw [show z.cells = z.cells.toList.toArray by simp, hf]
  rfl

/-- A slice's elements, as they lie in a row. -/
def Grid (X : Cx) (sz : Nat) (l : List (List CV)) (vs : List Value) : Prop :=
  (∀ e ∈ l, e.length = sz) ∧ vs.length = l.length * sz ∧ ∀ i j, i < l.length → j < sz → ∃ v, vs[i * sz + j]? = some v ∧ okC X l i j v

theorem at_of {i j sz a b : Nat} (hj : j < sz) (hb : b < sz) (h : i * sz + j = a * sz + b) : i = a ∧ j = b := by
  have h1 : (i * sz + j) / sz = i := by rw [Nat.mul_comm, Nat.mul_add_div (by omega), Nat.div_eq_of_lt hj]; rfl
  have h2 : (a * sz + b) / sz = a := by rw [Nat.mul_comm, Nat.mul_add_div (by omega), Nat.div_eq_of_lt hb]; rfl
  have : i = a := by rw [← h1, h, h2]
  subst this
  exact ⟨rfl, by omega⟩

theorem Grid.set {sz : Nat} {l : List (List CV)} {vs : List Value} (h : Grid X sz l vs) {i : Nat} (hi : i < l.length) {x : List CV} {us : List Value} (hx : x.length = sz) (hu : us.length = sz)
    (hr : ∀ (j : Nat) a b, x[j]? = some a → us[j]? = some b → RC X.I X.w a b) : Grid X sz (l.set i x) (wr vs (i * sz) us) := by
  obtain ⟨h1, h2, h3⟩ := h
  have hb : i * sz + us.length ≤ vs.length := by
    rw [hu, h2]
    calc i * sz + sz = (i + 1) * sz := by rw [Nat.add_mul, Nat.one_mul]
      _ ≤ l.length * sz := Nat.mul_le_mul_right _ (by omega)
  refine ⟨fun e he => ?_, by rw [wr_length, h2, List.length_set], fun a j ha hj => ?_⟩
  · rcases List.mem_or_eq_of_mem_set he with he | rfl
    · exact h1 e he
    · exact hx
  · rw [List.length_set] at ha
    rw [wr_get _ _ _ _ hb]
    by_cases hai : a = i
    · subst hai
      rw [if_pos (by omega)]
      have e1 : a * sz + j - a * sz = j := by omega
      rw [e1]
      have hju : j < us.length := by omega
      have hjx : j < x.length := by omega
      exact ⟨us[j], List.getElem?_eq_getElem hju, x, x[j], List.getElem?_set_self hi, List.getElem?_eq_getElem hjx, hr j _ _ (List.getElem?_eq_getElem hjx) (List.getElem?_eq_getElem hju)⟩
    · rw [if_neg (fun hk => by
        have : a * sz + j = i * sz + (a * sz + j - i * sz) := by omega
        exact hai (at_of hj (by omega) this).1)]
      obtain ⟨v, hv, e, y, e1, e2, e3⟩ := h3 a j ha hj
      exact ⟨v, hv, e, y, by rw [List.getElem?_set_ne (by omega)]; exact e1, e2, e3⟩

theorem fzParts_rch {ps : List (Nat × List Cell)} {J : Nat → Prop} {p : Nat × List Cell} (hp : p ∈ ps) (h : Gives X J (rchParts X.H ps)) {c : Cell} (hc : c ∈ p.2) : Gives X J (rch 5 X.H c) :=
  h.sub fun _ hi => List.mem_flatten.2 ⟨_, List.mem_map.2 ⟨p, hp, rfl⟩, List.mem_flatten.2 ⟨_, List.mem_map.2 ⟨c, hc, rfl⟩, hi⟩⟩

theorem fillS_sound (S : SR X) {sz len : Nat} : ∀ {ps : List (Nat × List Cell)} {qs : List (Nat × Value)} {xs : List (Nat × List CV)} {l : List (List CV)} {vs : List Value}, RParts X ps qs → fzParts X.H ps = some xs →
    Gives X X.I (rchParts X.H ps) → (xs.all (fun p => p.1 < len && p.2.length == sz) = true) → l.length = len → Grid X sz l vs →
    ∃ vs' : List Value, Instr.fill (fun i => some (i * sz, sz)) vs.toArray qs = some vs'.toArray ∧ Grid X sz (setAll l xs) vs' := by
  intro ps qs xs l vs hp
  induction hp generalizing xs l vs with
  | nil =>
    intro h _ _ _ hg
    simp [fzParts] at h
    subst h
    exact ⟨vs, rfl, hg⟩
  | @cons i c v us ps qs h1 h2 g ih =>
    intro h hgv ha hl hg
    unfold fzParts at h
    split at h
    case h_2 => cases h
    rename_i x xs' hx hxs
    cases h
    simp only [List.all_cons, Bool.and_eq_true, decide_eq_true_eq, beq_iff_eq] at ha
    obtain ⟨⟨a1, a2⟩, a3⟩ := ha
    obtain ⟨m1, m2⟩ := mapO_spec hx
    have hu : us.length = sz := by rw [← h2.1, m1, a2]
    have hset := hg.set (i := i) (by omega) (x := x) (us := us) a2 hu (fun j a b hxa hub => by
      have hj : j < c.length := by rw [m1]; exact (List.getElem?_eq_some_iff.1 hxa).1
      obtain ⟨y, hy, hf⟩ := m2 j _ (List.getElem?_eq_getElem hj)
      rw [hxa] at hy
      cases hy
      exact fzc_sound S (fun _ h => h) 5 hf (h2.2 j _ b (List.getElem?_eq_getElem hj) hub) (fzParts_rch (p := (i, c)) (by simp) hgv (List.getElem_mem hj)))
    have hsub : Gives X X.I (rchParts X.H ps) := hgv.sub fun id hi => by
      unfold rchParts at hi ⊢
      rw [List.map_cons, List.flatten_cons]
      exact List.mem_append_right _ hi
    obtain ⟨vs', hf, hgr⟩ := ih hxs hsub (by simpa using a3) (by simp [hl]) hset
    refine ⟨vs', ?_, hgr⟩
    unfold Instr.fill
    have hlt : i * sz + sz ≤ vs.length := by
      rw [hg.2.1, hl]
      calc i * sz + sz = (i + 1) * sz := by rw [Nat.add_mul, Nat.one_mul]
        _ ≤ len * sz := Nat.mul_le_mul_right _ (by omega)
    have e2 : ¬ (i * sz + sz > vs.length) := by omega
    simp only [h1, List.size_toArray, hu, ne_eq, not_true_eq_false, decide_false, Bool.false_or, e2, Bool.false_eq_true, if_false]
    rw [← hf, ← foldl_wr]

theorem vbuildSlice1_does (S : SR X) (M : Dom X) {nid : Nat} {ρ : Operand → Option AV} {ρ' : Operand → Value} (hρ : ∀ x a, ρ x = some a → RA X a (ρ' x)) {t : TypeId} {len : Nat} {parts : List (Nat × Operand)}
    {r : AV × List Ent × List Nat} (h : vbuildSlice1 P X.H nid ρ t len parts = some r) : Does P X nid r (Instr.buildSlice t len (parts.map fun p => (p.1, ρ' p.2)).toArray) := by
  unfold vbuildSlice1 at h
  split at h
  case h_2 => cases h
  rename_i e ps he hps
  split at h
  case h_2 => cases h
  rename_i i z qs hi hz hqs
  split at h
  case isFalse => cases h
  rename_i hc
  obtain ⟨b1, b2, b3, b4, b5⟩ := hc
  cases h
  intro hn hgiv
  obtain ⟨a1, e', a2, a3⟩ := hn.head
  obtain ⟨g, rfl⟩ := a3.clo
  have hii := typeInfo_run hi
  have hzz := zero_run hii hz
  have hzl : (zcells z).length = i.size := by simp [zcells, b3]
  have hp := partsOf_sound hρ hps
  have grid : Grid X i.size (List.replicate len (zcells z)) ((Array.range (len * i.size)).map (z.cells[· % z.cells.size]!)).toList := by
    refine ⟨fun x hx => by rw [List.eq_of_mem_replicate hx, hzl], by simp, fun a j ha hj => ?_⟩
    rw [List.length_replicate] at ha
    have hj' : j < (zcells z).length := by omega
    obtain ⟨y, hy, hrc⟩ := zcells_rc (I := X.I) (w := X.w) b4 (List.getElem?_eq_getElem hj')
    have hlt : a * i.size + j < len * i.size := by
      calc a * i.size + j < a * i.size + i.size := by omega
        _ = (a + 1) * i.size := by rw [Nat.add_mul, Nat.one_mul]
        _ ≤ len * i.size := Nat.mul_le_mul_right _ (by omega)
    refine ⟨y, ?_, _, _, List.getElem?_replicate_of_lt ha, List.getElem?_eq_getElem hj', hrc⟩
    have hmod : (a * i.size + j) % z.cells.size = j := by rw [b3, Nat.mul_comm, Nat.mul_add_mod, Nat.mod_eq_of_lt hj]
    rw [Array.getElem?_toList, Array.getElem?_eq_getElem (by simp; exact hlt)]
    simp only [Array.getElem_map, Array.getElem_range, hmod]
    rw [getElem!_def, hy]
  obtain ⟨vs', hf, hg⟩ := fillS_sound (len := len) S hp hqs (hgiv.gives S) b5 (by simp) grid
  rw [Array.toArray_toList] at hf
  have hrun := run_buildSlice (P := P) X.w t e len (parts.map fun p => (p.1, ρ' p.2)).toArray vs'.toArray i z (elemOf_under he) hii hzz (by omega) b2 (by simpa using hf)
  have hlen : (setAll (List.replicate len (zcells z)) qs).length = len := by
    have key : ∀ (qs : List (Nat × List CV)) (l : List (List CV)), (setAll l qs).length = l.length := by
      intro qs
      induction qs with
      | nil => intro l; rfl
      | cons q qs ih => intro l; rw [setAll, ih]; simp
    rw [key]; simp
  obtain ⟨Y, hw, hY, hσ⟩ := S.row M nid a1 a2 X.w rfl (.refl _) vs'.toArray e len i.size (by simp [hg.2.1, hlen]) (by simp only [Ent.len, hlen]; exact ⟨Nat.pos_of_ne_zero (fun h => b2 (by rw [h, Nat.zero_mul])), Nat.le_refl _⟩) ⟨hg.1, fun a j ha hj => by
    obtain ⟨v, hv, ho⟩ := hg.2.2 a j ha hj
    exact ⟨v, by simpa using hv, ho⟩⟩
  refine ⟨_, Y, by rw [hw]; exact hrun, hY, sl_new hY (by simp) a2 (by simp [Ent.len, hlen]) (Nat.le_refl _) hσ⟩

theorem vbuildC_does (S : SR X) (M : Dom X) {nid : Nat} {ρ : Operand → Option AV} {ρ' : Operand → Value} (hρ : ∀ x a, ρ x = some a → RA X a (ρ' x)) {t : TypeId} {len : Nat} {parts : List (Nat × Operand)}
    {r : AV × List Ent × List Nat} (h : vbuildC P X.H ρ t len parts = some r) (hcl : clParts X.H ρ parts = true) : Does P X nid r (Instr.buildSlice t len (parts.map fun p => (p.1, ρ' p.2)).toArray) := by
  unfold vbuildC at h
  split at h
  case h_2 => cases h
  rename_i e ps he hps
  split at h
  case h_2 => cases h
  rename_i i z qs hi hz hqs
  split at h
  case isFalse => cases h
  rename_i hc
  obtain ⟨b1, b2, b3, b4, b5⟩ := hc
  cases h
  intro _ _
  have hrc : rchParts X.H ps = [] := by
    unfold clParts at hcl
    rw [hps] at hcl
    simp only [Bool.and_eq_true, List.isEmpty_iff] at hcl
    exact hcl.2
  have hii := typeInfo_run hi
  have hzz := zero_run hii hz
  have hzl : (zcells z).length = i.size := by simp [zcells, b3]
  have hp := partsOf_sound hρ hps
  have grid : Grid X i.size (List.replicate len (zcells z)) ((Array.range (len * i.size)).map (z.cells[· % z.cells.size]!)).toList := by
    refine ⟨fun x hx => by rw [List.eq_of_mem_replicate hx, hzl], by simp, fun a j ha hj => ?_⟩
    rw [List.length_replicate] at ha
    have hj' : j < (zcells z).length := by omega
    obtain ⟨y, hy, hrc⟩ := zcells_rc (I := X.I) (w := X.w) b4 (List.getElem?_eq_getElem hj')
    have hlt : a * i.size + j < len * i.size := by
      calc a * i.size + j < a * i.size + i.size := by omega
        _ = (a + 1) * i.size := by rw [Nat.add_mul, Nat.one_mul]
        _ ≤ len * i.size := Nat.mul_le_mul_right _ (by omega)
    refine ⟨y, ?_, _, _, List.getElem?_replicate_of_lt ha, List.getElem?_eq_getElem hj', hrc⟩
    have hmod : (a * i.size + j) % z.cells.size = j := by rw [b3, Nat.mul_comm, Nat.mul_add_mod, Nat.mod_eq_of_lt hj]
    rw [Array.getElem?_toList, Array.getElem?_eq_getElem (by simp; exact hlt)]
    simp only [Array.getElem_map, Array.getElem_range, hmod]
    rw [getElem!_def, hy]
  obtain ⟨vs', hf, hg⟩ := fillS_sound (len := len) S hp hqs (by rw [hrc]; exact fun id hid => by cases hid) b5 (by simp) grid
  rw [Array.toArray_toList] at hf
  have hrun := run_buildSlice (P := P) X.w t e len (parts.map fun p => (p.1, ρ' p.2)).toArray vs'.toArray i z (elemOf_under he) hii hzz (by omega) b2 (by simpa using hf)
  have hlen : (setAll (List.replicate len (zcells z)) qs).length = len := by
    have key : ∀ (qs : List (Nat × List CV)) (l : List (List CV)), (setAll l qs).length = l.length := by
      intro qs
      induction qs with
      | nil => intro l; rfl
      | cons q qs ih => intro l; rw [setAll, ih]; simp
    rw [key]; simp
  let Y : Cx := { X with w := X.w.alloc (.cells vs'.toArray e), I := fun b => X.I b ∨ b = X.w.heap.size }
  have E : Ext X Y := ⟨rfl, rfl, fun _ h => h, rfl, fun _ _ => rfl, fun _ h => .inl h, by show _ ≤ (X.w.heap.push _).size; simp, fun b hb => by
    show (X.w.heap.push _)[b]? = _
    rw [Array.getElem?_push, if_neg (by omega)], ⟨⟨rfl, rfl⟩, rfl, Nat.le_refl _⟩⟩
  have hlt : ∀ b, Y.I b → b < Y.w.heap.size := fun b hb => by
    show b < (X.w.heap.push _).size
    rw [Array.size_push]
    rcases hb with hb | hb
    · have := S.imm b hb; omega
    · omega
  have SY : SR Y := S.ext E (fun _ h => h) (fun b hb => hb.imp (fun h => h) fun h => by omega) hlt
  have hM : Made X Y nid 0 := ⟨E, SY, fun id hd => by obtain ⟨e, he⟩ := M id hd; exact ⟨e, he⟩, fun id => ⟨.inl, fun h => h.elim (fun x => x) fun h => by omega⟩, fun b hb => hb.imp (fun h => h) fun h => by omega⟩
  have hcell : ∀ o, Y.w.cell? ⟨X.w.heap.size, o, none⟩ = vs'[o]? := fun o => by
    show World.cell? (X.w.alloc _) _ = _
    unfold World.cell?
    simp only [World.alloc, Array.getElem?_push_size]
    simp
  have hz0 : 0 < len := Nat.pos_of_ne_zero fun h => b2 (by rw [h, Nat.zero_mul])
  refine ⟨_, Y, hrun, hM, ?_⟩
  show RC Y.I Y.w (.arr _) (.slice (some ⟨X.w.heap.size, 0, none⟩) len len)
  have hl2 := hlen
  obtain ⟨l, hl⟩ : ∃ l, setAll (List.replicate len (zcells z)) qs = l := ⟨_, rfl⟩
  rw [hl] at hl2 hg ⊢
  subst hl2
  refine .arr l _ _ i.size (fun a j => (vs'[a * i.size + j]?).getD (.tuple #[])) (Nat.le_refl _) hg.1 (fun _ => ⟨X.w.heap.size, 0, rfl, .inr rfl, fun a j ha hj => ?_⟩) fun a j x y hx hy => ?_
  · obtain ⟨v, hv, _⟩ := hg.2.2 a j ha hj
    rw [Nat.zero_add, hcell, hv]
    rfl
  · have ha := (List.getElem?_eq_some_iff.1 hx).1
    have hxl := hg.1 x (List.mem_of_getElem? hx)
    have hj := (List.getElem?_eq_some_iff.1 hy).1
    obtain ⟨v, hv, x', y', h1, h2, h3⟩ := hg.2.2 a j ha (by omega)
    rw [hx] at h1
    cases h1
    rw [hy] at h2
    cases h2
    rw [hv]
    exact h3.mono (fun b hb => .inl hb) fun b hb => E.hp b (S.imm b hb)

theorem vbuildSlice_does (S : SR X) (M : Dom X) {nid : Nat} {ρ : Operand → Option AV} {ρ' : Operand → Value} (hρ : ∀ x a, ρ x = some a → RA X a (ρ' x)) {t : TypeId} {len : Nat} {parts : List (Nat × Operand)}
    {r : AV × List Ent × List Nat} (h : vbuildSlice P X.H nid ρ t len parts = some r) : Does P X nid r (Instr.buildSlice t len (parts.map fun p => (p.1, ρ' p.2)).toArray) := by
  unfold vbuildSlice at h
  split at h
  case isFalse => exact vbuildSlice1_does S M hρ h
  rename_i hz
  obtain ⟨rfl, hp⟩ := hz
  have hp' : parts = [] := by simpa using hp
  subst hp'
  split at h
  case h_2 => cases h
  rename_i e he
  split at h
  case h_2 => cases h
  rename_i i hi
  cases h
  intro hn _
  obtain ⟨a1, e', a2, a3⟩ := hn.head
  obtain ⟨g, rfl⟩ := a3.clo
  have hii := typeInfo_run hi
  have hrun : (Instr.buildSlice t 0 #[]).run P X.w = .ok (.slice (some ⟨X.w.heap.size, 0, none⟩) 0 0) (X.w.alloc (.cells #[] e)) := by
    simp [Instr.buildSlice, run_underlying (elemOf_under he), sizeOf, typeInfo, hii, newRow, Instr.fill]
    simp [Array.range]
  obtain ⟨Y, hw, hY, hσ, _⟩ := S.nil' M nid a1 a2 (some ⟨X.w.heap.size, 0, none⟩) (X.w.alloc (.cells #[] e)) (by show _ ≤ (X.w.heap.push _).size; simp) (fun b hb => by
    show (X.w.heap.push _)[b]? = _
    rw [Array.getElem?_push, if_neg (by omega)]) ⟨⟨rfl, rfl⟩, rfl, Nat.le_refl _⟩
  refine ⟨_, Y, by rw [hw]; exact hrun, hY, rfl, (hY.D nid).2 (.inr ⟨Nat.le_refl _, by simp⟩), _, by rw [hY.ext.H]; exact a2, by omega, by simp [Ent.len], fun _ => ⟨_, _, rfl, by omega, fun h => absurd rfl h, fun _ _ => by rw [hσ]; exact ⟨rfl, rfl⟩⟩⟩

theorem vbuildT_does (S : SR X) (M : Dom X) {cb : Bool} {nid : Nat} {ρ : Operand → Option AV} {ρ' : Operand → Value} (hρ : ∀ x a, ρ x = some a → RA X a (ρ' x)) {t : TypeId} {len : Nat} {parts : List (Nat × Operand)}
    {r : AV × List Ent × List Nat} (h : vbuildT P cb X.H nid ρ t len parts = some r) : Does P X nid r (Instr.buildSlice t len (parts.map fun p => (p.1, ρ' p.2)).toArray) := by
  unfold vbuildT at h
  split at h
  · rename_i hc
    exact vbuildC_does S M hρ h hc.2
  · exact vbuildSlice_does S M hρ h

theorem vbuildO_does (S : SR X) (M : Dom X) {nid : Nat} {ρ : Operand → Option AV} {ρ' : Operand → Value} (hρ : ∀ x a, ρ x = some a → RA X a (ρ' x)) {t : TypeId} {len : Nat} {parts : List (Nat × Operand)}
    {r : AV × List Ent × List Nat} (h : vbuildO P nid ρ t len parts = some r) : Does P X nid r (Instr.buildSlice t len (parts.map fun p => (p.1, ρ' p.2)).toArray) := by
  unfold vbuildO at h
  split at h
  case h_2 => cases h
  rename_i e c he hps
  split at h
  case h_2 => cases h
  rename_i i z hi hz
  split at h
  case isFalse => cases h
  rename_i hc
  obtain ⟨rfl, b2, b3⟩ := hc
  cases h
  intro hn hgiv
  obtain ⟨a1, e', a2, a3⟩ := hn.head
  obtain ⟨g, rfl⟩ := a3.opn
  have hii := typeInfo_run hi
  have hzz := zero_run hii hz
  have hp := partsOf_sound hρ hps
  generalize hq : (parts.map fun p => (p.1, ρ' p.2)) = qs at hp ⊢
  cases hp with
  | @cons _ _ v us _ _ hu hr g =>
    cases g
    obtain ⟨u, rfl⟩ : ∃ u, us = [u] := by
      have := hr.1
      match us, this with
      | [u], _ => exact ⟨u, rfl⟩
    have hf : Instr.fill (fun k => some (k * i.size, i.size)) ((Array.range (1 * i.size)).map (z.cells[· % z.cells.size]!)) [(0, v)] = some #[u] := by
      simp [Instr.fill, hu, b2]
      rw [show Array.range 1 = #[0] from rfl]
      generalize (fun x => z.cells[x % z.cells.size]!) = f
      apply Array.ext'
      simp
    have hrun := run_buildSlice (P := P) X.w t e 1 #[(0, v)] #[u] i z (elemOf_under he) hii hzz (by omega) (by omega) (by simpa using hf)
    obtain ⟨Y, hw, hY, hσ⟩ := S.row M nid a1 a2 X.w rfl (.refl _) #[u] e 1 1 (by simp) (by simp [Ent.len]) ⟨by simp, fun a j ha hj => by
      have ha0 : a = 0 := by simp at ha; exact ha
      have hj0 : j = 0 := by omega
      subst ha0 hj0
      exact ⟨u, by simp, [c], c, rfl, rfl, hr.2 0 c u rfl rfl⟩⟩
    exact ⟨_, Y, by rw [hw]; exact hrun, hY, sl_new hY (by simp) a2 (by simp [Ent.len]) (Nat.le_refl _) hσ⟩

theorem vbuildN_does (S : SR X) (M : Dom X) {nest cb : Bool} {nid : Nat} {ρ : Operand → Option AV} {ρ' : Operand → Value} (hρ : ∀ x a, ρ x = some a → RA X a (ρ' x)) {t : TypeId} {len : Nat} {parts : List (Nat × Operand)}
    {r : AV × List Ent × List Nat} (h : vbuildN P nest cb X.H nid ρ t len parts = some r) : Does P X nid r (Instr.buildSlice t len (parts.map fun p => (p.1, ρ' p.2)).toArray) := by
  unfold vbuildN at h
  split at h
  · exact vbuildO_does S M hρ h
  · exact vbuildT_does S M hρ h

end Go.Proofs.Vm
end

section
/- Calls: what is told of a callee, over closed values. -/
namespace Go.Proofs.Vm
open Go

variable {P : Program} {X : Cx}

def RKs (I : Nat → Prop) (w : World) (l : List CV) (vs : List Value) : Prop := l.length = vs.length ∧ ∀ (j : Nat) x y, l[j]? = some x → vs[j]? = some y → RC I w x y

def RKP (I : Nat → Prop) (w : World) (p : Bool × List CV) (v : Value) : Prop :=
  if p.1 then ∃ vs : List Value, v = .agg vs.toArray ∧ RKs I w p.2 vs else ∃ c, p.2 = [c] ∧ RC I w c v

def RK (I : Nat → Prop) (w : World) : CA → Value → Prop
  | .one x, v => RC I w x v
  | .agg l, v => ∃ vs : List Value, v = .agg vs.toArray ∧ RKs I w l vs
  | .tup l, v => ∃ vs : List Value, v = .tuple vs.toArray ∧ l.length = vs.length ∧ ∀ (j : Nat) p y, l[j]? = some p → vs[j]? = some y → RKP I w p y

def RKL (I : Nat → Prop) (w : World) (l : List CA) (vs : List Value) : Prop := l.length = vs.length ∧ ∀ (j : Nat) x y, l[j]? = some x → vs[j]? = some y → RK I w x y

/-- What is known of a function at closed arguments. -/
def Ctr (P : Program) (f : FuncId) (args : List CA) (r : CA) : Prop :=
  ∀ (I : Nat → Prop) (w : World) (vals : List Value), (∀ b, I b → b < w.heap.size) → Tabs w.heap.size w → RKL I w args vals →
    Calls P f vals.toArray w fun e w' => ∃ v I', e = .returned v ∧ (∀ b, I b → I' b) ∧ (∀ b, I' b → I b ∨ w.heap.size ≤ b) ∧ (∀ b, I' b → b < w'.heap.size) ∧ w.heap.size ≤ w'.heap.size ∧
      (∀ b, b < w.heap.size → w'.heap[b]? = w.heap[b]?) ∧ Stl w w' ∧ RK I' w' r v

def FnOk (P : Program) (f : FuncId) : Prop := ∃ fn, P.funcs[f]? = some fn ∧ fn.body.isSome = true ∧ (fn.name == "runtime.NumGoroutine") = false

/-- What is known of functions: over closed values; and of those that share the caller's memory. -/
structure Tab where
  pu : FuncId → List CA → Option CA
  S : FuncId → List AV → Hp → Option (AV × Hp)
  /-- Is a slice that is built of closed parts a closed one? -/
  cb : Bool := false

def PuOk (P : Program) (T : Tab) : Prop := ∀ f args r, T.pu f args = some r → FnOk P f ∧ Ctr P f args r

def CV.plain : CV → Bool
  | .v (.bool _) => true
  | .v (.int _ _) => true
  | .v (.string _) => true
  | _ => false

def CA.plain : CA → Bool
  | .one x => x.plain
  | .agg l => l.all (·.plain)
  | .tup l => l.all fun p => p.2.all (·.plain)

theorem plain_rc {I J : Nat → Prop} {w w' : World} {x : CV} (h : x.plain = true) {v : Value} (hv : RC I w x v) : RC J w' x v := by
  unfold CV.plain at h
  split at h <;> first | (exact absurd h Bool.false_ne_true) | (cases hv; exact .v _ ‹_›)

theorem plain_rks {I J : Nat → Prop} {w w' : World} {l : List CV} (h : l.all (·.plain) = true) {vs : List Value} (hv : RKs I w l vs) : RKs J w' l vs :=
  ⟨hv.1, fun j x y hx hy => plain_rc (List.all_eq_true.1 h x (List.mem_of_getElem? hx)) (hv.2 j x y hx hy)⟩

theorem plain_rk {I J : Nat → Prop} {w w' : World} {k : CA} (h : k.plain = true) {v : Value} (hv : RK I w k v) : RK J w' k v := by
  cases k with
  | one x => exact plain_rc h hv
  | agg l =>
    obtain ⟨vs, h1, h2⟩ := hv
    exact ⟨vs, h1, plain_rks h h2⟩
  | tup l =>
    obtain ⟨vs, h1, h2, h3⟩ := hv
    refine ⟨vs, h1, h2, fun j p y hp hy => ?_⟩
    have hpl := List.all_eq_true.1 h p (List.mem_of_getElem? hp)
    have := h3 j p y hp hy
    unfold RKP at this ⊢
    split
    · rename_i hb
      rw [if_pos hb] at this
      obtain ⟨us, a1, a2⟩ := this
      exact ⟨us, a1, plain_rks hpl a2⟩
    · rename_i hb
      rw [if_neg hb] at this
      obtain ⟨c, a1, a2⟩ := this
      exact ⟨c, a1, plain_rc (by rw [a1] at hpl; simpa using hpl) a2⟩

theorem rcells_of_rks {l : List CV} {vs : List Value} (h : RKs X.I X.w l vs) : RCells X (l.map .c) vs := by
  refine ⟨by simp [h.1], fun j c y hc hy => ?_⟩
  rw [List.getElem?_map] at hc
  obtain ⟨x, hx, rfl⟩ := Option.map_eq_some_iff.1 hc
  exact h.2 j x y hx hy

theorem ra_of_rk {k : CA} {v : Value} (h : RK X.I X.w k v) : RA X k.av v := by
  cases k with
  | one x => exact h
  | agg l =>
    obtain ⟨vs, h1, h2⟩ := h
    exact ⟨vs, h1, rcells_of_rks h2⟩
  | tup l =>
    obtain ⟨vs, h1, h2, h3⟩ := h
    refine ⟨vs, h1, by simp [h2], fun j p y hp hy => ?_⟩
    rw [List.getElem?_map] at hp
    obtain ⟨q, hq, rfl⟩ := Option.map_eq_some_iff.1 hp
    have := h3 j q y hq hy
    unfold RKP at this
    unfold RP
    split
    · rename_i hb
      rw [if_pos hb] at this
      obtain ⟨us, a1, a2⟩ := this
      exact ⟨us, a1, rcells_of_rks a2⟩
    · rename_i hb
      rw [if_neg hb] at this
      obtain ⟨c, a1, a2⟩ := this
      exact ⟨.c c, by simp [a1], a2⟩

theorem fzl_sound (S : SR X) {J : Nat → Prop} (hI : ∀ b, X.I b → J b) {l : List Cell} {xs : List CV} {vs : List Value} (h : mapO (fzc 5 X.H) l = some xs) (hv : RCells X l vs)
    (hg : Gives X J ((l.map (rch 5 X.H)).flatten)) : RKs J X.w xs vs := by
  obtain ⟨h1, h2⟩ := mapO_spec h
  refine ⟨by rw [← h1, hv.1], fun j x y hx hy => ?_⟩
  have hj : j < l.length := by rw [h1]; exact (List.getElem?_eq_some_iff.1 hx).1
  obtain ⟨z, hz, hf⟩ := h2 j _ (List.getElem?_eq_getElem hj)
  rw [hx] at hz
  cases hz
  exact fzc_sound S hI 5 hf (hv.2 j _ y (List.getElem?_eq_getElem hj) hy) (hg.sub fun id hi => List.mem_flatten.2 ⟨_, List.mem_map.2 ⟨_, List.getElem_mem hj, rfl⟩, hi⟩)

theorem fza_sound (S : SR X) {J : Nat → Prop} (hI : ∀ b, X.I b → J b) {a : AV} {k : CA} (h : fza X.H a = some k) {v : Value} (hv : RA X a v) (hg : Gives X J (rcha X.H a)) : RK J X.w k v := by
  cases a with
  | one c =>
    obtain ⟨x, hx, rfl⟩ := Option.map_eq_some_iff.1 h
    exact fzc_sound S hI 5 hx hv hg
  | agg l =>
    obtain ⟨x, hx, rfl⟩ := Option.map_eq_some_iff.1 h
    obtain ⟨vs, h1, h2⟩ := hv
    exact ⟨vs, h1, fzl_sound S hI hx h2 hg⟩
  | tup l =>
    obtain ⟨x, hx, rfl⟩ := Option.map_eq_some_iff.1 h
    obtain ⟨vs, h1, h2, h3⟩ := hv
    obtain ⟨m1, m2⟩ := mapO_spec hx
    refine ⟨vs, h1, by rw [← m1, h2], fun j p y hp hy => ?_⟩
    have hj : j < l.length := by rw [m1]; exact (List.getElem?_eq_some_iff.1 hp).1
    obtain ⟨z, hz, hf⟩ := m2 j _ (List.getElem?_eq_getElem hj)
    rw [hp] at hz
    cases hz
    obtain ⟨xs, hxs, rfl⟩ := Option.map_eq_some_iff.1 hf
    have hr := h3 j _ y (List.getElem?_eq_getElem hj) hy
    have hg' : Gives X J ((l[j].2.map (rch 5 X.H)).flatten) := hg.sub fun id hi => List.mem_flatten.2 ⟨_, List.mem_map.2 ⟨_, List.getElem_mem hj, rfl⟩, hi⟩
    unfold RP at hr
    unfold RKP
    dsimp only
    split
    · rename_i hb
      rw [if_pos hb] at hr
      obtain ⟨us, a1, a2⟩ := hr
      exact ⟨us, a1, fzl_sound S hI hxs a2 hg'⟩
    · rename_i hb
      rw [if_neg hb] at hr
      obtain ⟨c, a1, a2⟩ := hr
      rw [a1] at hxs hg'
      unfold mapO at hxs
      split at hxs
      case h_2 => cases hxs
      rename_i y' l' hy' hl'
      simp [mapO] at hl'
      subst hl'
      cases hxs
      exact ⟨y', rfl, fzc_sound S hI 5 hy' a2 (hg'.sub fun id hi => by simpa using hi)⟩

def calleeOf (H : Hp) : AV → Option (FuncId × List CV)
  | .one (.fn g caps) => match fzc 5 H (.fn g caps) with
    | some (.fn g cs) => some (g, cs)
    | _ => none
  | .one (.c (.fn g cs)) => some (g, cs)
  | _ => none

def vcall (T : Tab) (H : Hp) (fv : AV) (args : List AV) : RR :=
  match calleeOf H fv, mapO (fza H) args with
  | some (g, cs), some ks => match T.pu g (ks ++ cs.map .one) with
    | some r => some (r.av, [], if r.plain then [] else rcha H fv ++ (args.map (rcha H)).flatten)
    | none => none
  | _, _ => none

/-- What an operation must do, where it may be a call. -/
def OpDoes (P : Program) (X : Cx) (nid : Nat) (r : AV × List Ent × List Nat) (o : Oper) (act : Act) : Prop :=
  News X nid r.2.1 → Given X r.2.2 → ∀ (K : Act → World → Prop) (Q : Exit → Act → World → Prop),
    (∀ v Y, Made X Y nid r.2.1.length → RA Y r.1 v → K (act.put o.dst v) Y.w) → o.wp P act X.w K Q

theorem Does.op {nid : Nat} {r : AV × List Ent × List Nat} {s : Sem Value} (h : Does P X nid r s) {o : Oper} {act : Act} (hs : ∀ w v w', s.run P w = .ok v w' → (execOp act.eval o).run P w = .ok (.value v) w') : OpDoes P X nid r o act := by
  intro hn hg K Q hK
  obtain ⟨v, Y, h1, h2, h3⟩ := h hn hg
  unfold Oper.wp
  rw [hs _ _ _ h1]
  exact hK v Y h2 h3

theorem FnOk.run {f : FuncId} (h : FnOk P f) (args : Array Value) (w : World) : (callFunc f args).run P w = .ok (.enter f args) w := by
  obtain ⟨fn, h1, h2, h3⟩ := h
  have h4 : fn.name ≠ "runtime.NumGoroutine" := by simpa using h3
  cases hb : fn.body with
  | none => simp [hb] at h2
  | some c => simp [callFunc, h1, h4, hb]

theorem calleeOf_sound (S : SR X) {J : Nat → Prop} (hI : ∀ b, X.I b → J b) {a : AV} {g : FuncId} {cs : List CV} (h : calleeOf X.H a = some (g, cs)) {v : Value} (hv : RA X a v) (hg : Gives X J (rcha X.H a)) :
    ∃ vs : List Value, v = .func (.func g) #[] vs.toArray ∧ RKs J X.w cs vs := by
  unfold calleeOf at h
  split at h
  · split at h
    case h_2 => cases h
    rename_i g' cs' hf
    cases h
    have := fzc_sound S hI 5 hf hv hg
    cases this with
    | fn f caps vs hl hr => exact ⟨vs, rfl, hl, hr⟩
  · cases h
    cases hv with
    | fn f caps vs hl hr => exact ⟨vs, rfl, hl, fun j x y hx hy => (hr j x y hx hy).mono hI fun _ _ => rfl⟩
  · cases h

theorem vcall_does {T : Tab} (hT : PuOk P T) (S : SR X) (M : Dom X) {nid : Nat} {act : Act} {o : Oper} {c : Call} {f : Operand} (ho : o.op = .call c) (hc : c.callee = .value f) {fv : AV} {args : List AV}
    {r : AV × List Ent × List Nat} (h : vcall T X.H fv args = some r) (hf : RA X fv (act.eval f)) (ha : RAs X args (c.args.toList.map act.eval)) : OpDoes P X nid r o act := by
  unfold vcall at h
  split at h
  case h_2 => cases h
  rename_i g cs ks hcal hks
  split at h
  case h_2 => cases h
  rename_i k hk
  cases h
  intro _ hgiv K Q hK
  obtain ⟨hfn, hctr⟩ := hT _ _ _ hk
  obtain ⟨m1, m2⟩ := mapO_spec hks
  -- what is lent, or given up
  let ms := rcha X.H fv ++ (args.map (rcha X.H)).flatten
  have main : ∀ (J : Nat → Prop) (_ : ∀ b, X.I b → J b) (_ : ∀ b, J b → b < X.w.heap.size) (_ : Gives X J ms),
      (∀ v w' I', (∀ b, J b → I' b) → (∀ b, I' b → J b ∨ X.w.heap.size ≤ b) → (∀ b, I' b → b < w'.heap.size) → X.w.heap.size ≤ w'.heap.size → (∀ b, b < X.w.heap.size → w'.heap[b]? = X.w.heap[b]?) → Stl X.w w' → RK I' w' k v →
        K (act.put o.dst v) w') → o.wp P act X.w K Q := by
    intro J hI hlt hg hend
    obtain ⟨vs, hfv, hcs⟩ := calleeOf_sound S hI hcal hf (hg.sub fun id hi => List.mem_append_left _ hi)
    have hargs : RKL J X.w (ks ++ cs.map .one) (c.args.toList.map act.eval ++ vs) := by
      refine ⟨by simp [← m1, ha.1, hcs.1], fun j x y hx hy => ?_⟩
      by_cases hj : j < ks.length
      · rw [List.getElem?_append_left hj] at hx
        rw [List.getElem?_append_left (by rw [← ha.1, m1]; exact hj)] at hy
        have hja : j < args.length := by rw [m1]; exact hj
        obtain ⟨z, hz, hfz⟩ := m2 j _ (List.getElem?_eq_getElem hja)
        rw [hx] at hz
        cases hz
        exact fza_sound S hI hfz (ha.2 j _ y (List.getElem?_eq_getElem hja) hy) (hg.sub fun id hi => List.mem_append_right _ (List.mem_flatten.2 ⟨_, List.mem_map.2 ⟨_, List.getElem_mem hja, rfl⟩, hi⟩))
      · rw [List.getElem?_append_right (by omega), List.getElem?_map] at hx
        rw [List.getElem?_append_right (by rw [← ha.1, m1]; omega)] at hy
        rw [← ha.1, m1] at hy
        obtain ⟨z, hz, rfl⟩ := Option.map_eq_some_iff.1 hx
        exact hcs.2 _ z y hz hy
    have hcall := hctr J X.w _ hlt S.tabs hargs
    unfold Oper.wp
    have hrun : (execOp act.eval o).run P X.w = .ok (.enter g (c.args.toList.map act.eval ++ vs).toArray) X.w := by
      simp only [execOp, ho, resolve, hc, hfv, Deferred.ofValue, Sem.run_bind, Sem.run_pure, Result.andThen_ok, invoke]
      rw [hfn.run]
      congr 2
      apply Array.ext'
      simp
    rw [hrun]
    show Calls P g _ X.w _
    refine hcall.mono fun e w' he => ?_
    obtain ⟨v, I', rfl, a1, a2, a3, a4, a5, akp, a6⟩ := he
    exact hend v w' I' a1 a2 a3 a4 a5 akp a6
  by_cases hp : k.plain = true
  · refine main (fun b => X.I b ∨ ∃ id, X.D id ∧ (X.σ id).blk = some b) (fun b hb => .inl hb) (fun b hb => ?_) (fun id hi hd e he hm b hb => .inr ⟨id, hd, hb⟩) fun v w' I' a1 a2 a3 a4 a5 akp a6 => ?_
    · rcases hb with hb | ⟨id, hd, hb⟩
      · exact S.imm b hb
      · exact (S.blk M id b hd hb).1
    · let Y : Cx := { X with w := w' }
      have E : Ext X Y := ⟨rfl, rfl, fun _ h => h, rfl, fun _ _ => rfl, fun _ h => h, a4, a5, akp⟩
      have SY : SR Y := S.ext E (fun _ h => h) (fun _ h => .inl h) (fun b hb => Nat.lt_of_lt_of_le (S.imm b hb) a4)
      exact hK v Y ⟨E, SY, M, fun id => ⟨.inl, fun h => h.elim (fun x => x) (by simp; omega)⟩, fun _ h => .inl h⟩ (ra_of_rk (X := Y) (plain_rk hp a6))
  · have hgiv' : Gives X X.I ms := Given.gives S (by simpa [hp] using hgiv)
    refine main X.I (fun b hb => hb) S.imm hgiv' fun v w' I' a1 a2 a3 a4 a5 akp a6 => ?_
    let Y : Cx := { X with w := w', I := I' }
    have E : Ext X Y := ⟨rfl, rfl, fun _ h => h, rfl, fun _ _ => rfl, a1, a4, a5, akp⟩
    have SY : SR Y := S.ext E (fun _ h => h) a2 a3
    exact hK v Y ⟨E, SY, M, fun id => ⟨.inl, fun h => h.elim (fun x => x) (by simp; omega)⟩, a2⟩ (ra_of_rk (X := Y) a6)

end Go.Proofs.Vm
end

section
/- The value machine's writing operations. -/
namespace Go.Proofs.Vm
open Go

variable {P : Program} {X : Cx}

def Ent.wrO (l : List (List Cell)) (i off : Nat) (cs : List Cell) : List (List Cell) := l.modify i fun e => wr e off cs
def Ent.wrC (l : List (List CV)) (i off : Nat) (cs : List CV) : List (List CV) := l.modify i fun e => wr e off cs

def hasRef (cs : List Cell) : Bool := cs.any fun
  | .c _ => false
  | _ => true

/-- A store. Behind a pointer into a slice of closed elements what is stored is given up. -/
def vstore (P : Program) (nest : Bool) (H : Hp) (t : TypeId) (a x : AV) : Option Hp :=
  match a, cellsOf? x with
  | .one (.ptr p), some cs => match H[p.id]?, pv P (sizeOf t) with
    | some (.opn l false), some n => if l.length = p.tot ∧ cs.length = n then
        match l[p.i]? with
        | some e => if p.off + n ≤ e.length then some (H.set p.id (.opn (Ent.wrO l p.i p.off cs) false)) else none
        | none => none
      else none
    | some (.clo l false), some n => if l.length = p.tot ∧ cs.length = n then
        if nest && hasRef cs then match l[p.i]? with
          | some e => if p.off + n ≤ e.length then some (H.set p.id (.opn (Ent.wrO (l.map fun e => e.map .c) p.i p.off cs) false)) else none
          | none => none
        else match l[p.i]?, mapO (fzc 5 H) cs with
        | some e, some xs =>
          let ms := (cs.map (rch 5 H)).flatten
          if p.off + n ≤ e.length ∧ ¬ p.id ∈ ms then some ((frzAll H ms).set p.id (.clo (Ent.wrC l p.i p.off xs) false)) else none
        | _, _ => none
      else none
    | _, _ => none
  | _, _ => none

theorem setCells_heap (b : Nat) : ∀ (vs : List Value) (o : Nat) (w : World) (c : Array Value) (ty : TypeId) (fr : Nat × Nat), w.heap[b]? = some (.cells c ty fr) → o + vs.length ≤ c.size →
    (w.setCells b o vs).heap[b]? = some (.cells (wr c.toList o vs).toArray ty fr) ∧ (∀ k, k ≠ b → (w.setCells b o vs).heap[k]? = w.heap[k]?) ∧ (w.setCells b o vs).heap.size = w.heap.size
  | [], o, w, c, ty, fr, h, _ => by
    refine ⟨?_, fun _ _ => rfl, rfl⟩
    simp only [World.setCells, wr, Array.toArray_toList]
    exact h
  | v :: r, o, w, c, ty, fr, h, hl => by
    simp only [List.length_cons] at hl
    have hb : b < w.heap.size := by
      rcases Nat.lt_or_ge b w.heap.size with h' | h'
      · exact h'
      · rw [Array.getElem?_eq_none h'] at h; cases h
    have h1 : (w.setCell ⟨b, o, none⟩ v).heap[b]? = some (.cells (c.setIfInBounds o v) ty fr) := by
      simp only [World.setCell, Array.getElem?_modify, if_true, h, Option.map_some]
      rfl
    have h2 : ∀ k, k ≠ b → (w.setCell ⟨b, o, none⟩ v).heap[k]? = w.heap[k]? := fun k hk => by
      simp only [World.setCell, Array.getElem?_modify]
      rw [if_neg (fun e => hk e.symm)]
    obtain ⟨g1, g2, g3⟩ := setCells_heap b r (o + 1) _ _ ty fr h1 (by simp; omega)
    refine ⟨?_, fun k hk => (g2 k hk).trans (h2 k hk), g3.trans (by simp [World.setCell])⟩
    rw [World.setCells, g1, wr]
    simp

theorem setCells_stl (b : Nat) : ∀ (vs : List Value) (o : Nat) (w : World), Stl w (w.setCells b o vs)
  | [], _, _ => ⟨⟨rfl, rfl⟩, rfl, Nat.le_refl _⟩
  | v :: r, o, w => by
    have h := setCells_stl b r (o + 1) (w.setCell ⟨b, o, none⟩ v)
    exact Stl.trans (b := w.setCell ⟨b, o, none⟩ v) ⟨⟨rfl, rfl⟩, rfl, Nat.le_refl _⟩ h

theorem grid_at {i j a b sz : Nat} (hj : j < sz) (hb : b < sz) : i * sz + j = a * sz + b ↔ i = a ∧ j = b := ⟨at_of hj hb, fun ⟨h1, h2⟩ => by rw [h1, h2]⟩

/-- A place of one own row is written; all else stays. -/
structure Wrote (X Y : Cx) (id : Nat) : Prop where
  base : Y.base = X.base
  w0 : Y.w0 = X.w0
  D : ∀ i, Y.D i ↔ X.D i
  σ : ∀ i, i ≠ id → X.D i → Y.σ i = X.σ i
  I : Y.I = X.I
  H : ∀ i, i ≠ id → Y.H[i]? = X.H[i]?
  sz : X.w.heap.size ≤ Y.w.heap.size
  hp : ∀ b, b < X.w.heap.size → (∀ k, (X.σ id).blk = some k → b ≠ k) → Y.w.heap[b]? = X.w.heap[b]?
  ent : ∃ e e', X.H[id]? = some e ∧ Y.H[id]? = some e' ∧ e.len ≤ e'.len ∧ (e'.len = e.len → Y.σ id = X.σ id) ∧ (∀ l, e = .mp l → ∃ l', e' = .mp l')
  d : X.D id
  kp : Stl X.w Y.w
  own : ∀ k, (X.σ id).blk = some k → ¬ X.I k

section
variable {Y : Cx} {id : Nat} (W : Wrote X Y id) (S : SR X) (M : Dom X)
include W S

theorem Wrote.hpI {b : Nat} (hb : X.I b) : Y.w.heap[b]? = X.w.heap[b]? := W.hp b (S.imm b hb) fun k hk e => W.own k hk (e ▸ hb)

theorem Wrote.rc {x : CV} {v : Value} (h : RC X.I X.w x v) : RC Y.I Y.w x v := by
  rw [W.I]
  exact h.mono (fun _ h => h) fun b hb => W.hpI S hb

omit S in
theorem Wrote.rpt {p : Pt} {v : Value} (h : RPt X p v) : RPt Y p v := by
  obtain ⟨h0, h1, e, h2, h3, h4⟩ := h
  by_cases hid : p.id = id
  · obtain ⟨e0, e', g1, g2, g3, g4, _⟩ := W.ent
    rw [hid] at h2 h1 h4
    rw [g1] at h2
    cases h2
    refine ⟨h0, (W.D _).2 (by rw [hid]; exact h1), e', by rw [hid]; exact g2, by omega, fun he => ?_⟩
    rw [hid, g4 (by omega)]
    exact h4 (by omega)
  · refine ⟨h0, (W.D _).2 h1, e, by rw [W.H _ hid]; exact h2, h3, fun he => ?_⟩
    rw [W.σ _ hid h1]
    exact h4 he

theorem Wrote.rcap {x : CV ⊕ Pt} {v : Value} (h : RCap X x v) : RCap Y x v := by
  cases x with
  | inl x => exact W.rc S h
  | inr p => exact W.rpt h

theorem Wrote.rcell {c : Cell} {v : Value} (h : RCell X c v) : RCell Y c v := by
  cases c with
  | c x => exact W.rc S h
  | sl i o n tot =>
    obtain ⟨h0, h1, e, h2, h3, h4, h5⟩ := h
    by_cases hid : i = id
    · subst hid
      obtain ⟨e0, e', g1, g2, g3, g4, _⟩ := W.ent
      rw [g1] at h2
      cases h2
      refine ⟨h0, (W.D _).2 h1, e', g2, h3, by omega, fun he => ?_⟩
      rw [g4 (by omega)]
      exact h5 (by omega)
    · refine ⟨h0, (W.D _).2 h1, e, by rw [W.H _ hid]; exact h2, h3, h4, fun he => ?_⟩
      rw [W.σ _ hid h1]
      exact h5 he
  | ptr p => exact W.rpt h
  | fn f caps =>
    obtain ⟨vs, h1, h2, h3⟩ := h
    exact ⟨vs, h1, h2, fun j x y hx hy => W.rcap S (h3 j x y hx hy)⟩
  | mp i =>
    obtain ⟨h1, l, b, h2, h3⟩ := h
    by_cases hid : i = id
    · obtain ⟨e0, e', g1, g2, g3, g4, g5⟩ := W.ent
      rw [← hid, h2] at g1
      cases g1
      obtain ⟨l', rfl⟩ := g5 l rfl
      refine ⟨(W.D _).2 h1, l', b, by rw [hid]; exact g2, ?_⟩
      rw [hid] at h3 ⊢
      rw [g4 rfl]
      exact h3
    · refine ⟨(W.D _).2 h1, l, b, by rw [W.H _ hid]; exact h2, ?_⟩
      rw [W.σ _ hid h1]
      exact h3

theorem Wrote.rcells {l : List Cell} {vs : List Value} (h : RCells X l vs) : RCells Y l vs :=
  ⟨h.1, fun j c y hc hy => W.rcell S (h.2 j c y hc hy)⟩

theorem Wrote.rp {p : Bool × List Cell} {v : Value} (h : RP X p v) : RP Y p v := by
  unfold RP at *
  split
  · rename_i hp
    rw [if_pos hp] at h
    obtain ⟨vs, h1, h2⟩ := h
    exact ⟨vs, h1, W.rcells S h2⟩
  · rename_i hp
    rw [if_neg hp] at h
    obtain ⟨c, h1, h2⟩ := h
    exact ⟨c, h1, W.rcell S h2⟩

theorem Wrote.ra {a : AV} {v : Value} (h : RA X a v) : RA Y a v := by
  cases a with
  | one c => exact W.rcell S h
  | agg l =>
    obtain ⟨vs, h1, h2⟩ := h
    exact ⟨vs, h1, W.rcells S h2⟩
  | tup l =>
    obtain ⟨vs, h1, h2, h3⟩ := h
    exact ⟨vs, h1, h2, fun j p y hp hy => W.rp S (h3 j p y hp hy)⟩

/-- The other entries stay. -/
theorem Wrote.rent {s : Sl} {e : Ent} (hb : ∀ b, s.blk = some b → b < X.w.heap.size ∧ ∀ k, (X.σ id).blk = some k → b ≠ k) (h : REnt X s e) : REnt Y s e := by
  have row : ∀ {n : Nat} {fz : Bool} {ok ok' : Nat → Nat → Value → Prop}, (∀ i j v, ok i j v → ok' i j v) → Row X s n fz ok → Row Y s n fz ok' := by
    intro n fz ok ok' hok hrow
    rcases hrow with h | ⟨b, c, ty, fr, h1, h2, h3, h4, h5, h6, h7, h8, h9, h10⟩
    · exact .inl h
    · have hh := W.hp b (hb b h1).1 (hb b h1).2
      refine .inr ⟨b, c, ty, fr, h1, h2, hh.trans h3, fun o ho => ?_, h5, h6, by rw [W.base]; exact h7, by rw [W.I]; exact h8, by rw [W.I]; exact h9, fun i j hi hj => ?_⟩
      · rw [frozen_of_heap hh]; exact h4 o ho
      · obtain ⟨v, hv, ho⟩ := h10 i j hi hj
        exact ⟨v, hv, hok i j v ho⟩
  cases e with
  | clo l fz => exact ⟨h.1, row (fun i j v ⟨e, x, a, b, c⟩ => ⟨e, x, a, b, W.rc S c⟩) h.2⟩
  | opn l fz => exact ⟨h.1, row (fun i j v ⟨e, x, a, b, c⟩ => ⟨e, x, a, b, W.rcell S c⟩) h.2⟩
  | mp l =>
    obtain ⟨b, es, ck, h1, h2, h3, h4, h5, h6⟩ := h
    refine ⟨b, es, ck, h1, (W.hp b (hb b h1).1 (hb b h1).2).trans h2, by rw [W.base]; exact h3, by rw [W.I]; exact h4, h5, fun j p y hp hy => ?_⟩
    obtain ⟨hk, x, a1, a2⟩ := h6 j p y hp hy
    exact ⟨hk, x, a1, W.rc S a2⟩

theorem Wrote.sr (M : Dom X) (hid : ∀ e, Y.H[id]? = some e → REnt Y (Y.σ id) e) (hnew : ∀ b, (Y.σ id).blk = some b → (X.σ id).blk = some b ∨ X.w.heap.size ≤ b) : SR Y where
  ent i e hd he := by
    by_cases h : i = id
    · subst h; exact hid e he
    · have hd' := (W.D i).1 hd
      rw [W.H i h] at he
      rw [W.σ i h hd']
      exact W.rent S (fun b hb => ⟨(S.blk M i b hd' hb).1, fun k hk e => S.inj i id b hd' W.d h hb (e ▸ hk)⟩) (S.ent i e hd' he)
  inj i j b hi hj hne h1 h2 := by
    have hi' := (W.D i).1 hi
    have hj' := (W.D j).1 hj
    by_cases hii : i = id
    · subst hii
      rw [W.σ j (fun e => hne e.symm) hj'] at h2
      rcases hnew b h1 with h | h
      · exact S.inj _ _ b hi' hj' hne h h2
      · have := (S.blk M j b hj' h2).1
        omega
    · rw [W.σ i hii hi'] at h1
      by_cases hjj : j = id
      · subst hjj
        rcases hnew b h2 with h | h
        · exact S.inj _ _ b hi' hj' hne h1 h
        · have := (S.blk M i b hi' h1).1
          omega
      · rw [W.σ j hjj hj'] at h2
        exact S.inj i j b hi' hj' hne h1 h2
  size := by rw [W.base]; exact Nat.le_trans S.size W.sz
  old b hb := by
    rw [W.base] at hb
    rw [W.w0, W.hp b (Nat.lt_of_lt_of_le hb S.size) (fun k hk e => by
      have := (S.blk M id k W.d hk).2
      omega)]
    exact S.old b hb
  imm b hb := by
    rw [W.I] at hb
    exact Nat.lt_of_lt_of_le (S.imm b hb) W.sz
  kp := by rw [W.w0]; exact S.kp.trans W.kp
  tab := by rw [W.base, W.w0]; exact S.tab

omit S in
theorem Wrote.dom (M : Dom X) : Dom Y := fun i hd => by
  by_cases h : i = id
  · obtain ⟨e, e', _, g, _⟩ := W.ent
    exact ⟨e', by rw [h]; exact g⟩
  · obtain ⟨e, he⟩ := M i ((W.D i).1 hd)
    exact ⟨e, by rw [W.H i h]; exact he⟩
end

end Go.Proofs.Vm
end

section
/- Stores. -/
namespace Go.Proofs.Vm
open Go

variable {P : Program} {X : Cx}

theorem row_wr {Y : Cx} {s : Sl} {n : Nat} {ok ok' : Nat → Nat → Value → Prop} (h : Row X s n false ok) {b : Nat} (hb : s.blk = some b) {i off : Nat} (hi : i < n) {us : List Value} (ho : off + us.length ≤ s.sz)
    (hw : Y.w = X.w.setCells b (i * s.sz + off) us) (hbase : Y.base = X.base) (hI : Y.I = X.I)
    (h1 : ∀ a j v, ok a j v → ¬ (a = i ∧ off ≤ j ∧ j < off + us.length) → ok' a j v) (h2 : ∀ (k : Nat) u, us[k]? = some u → ok' i (off + k) u) :
    Row Y s n false ok' ∧ (∀ k, k ≠ b → Y.w.heap[k]? = X.w.heap[k]?) ∧ Y.w.heap.size = X.w.heap.size ∧ ¬ X.I b ∧
    (∀ j, j < us.length → (X.w.cell? ⟨b, i * s.sz + off + j, none⟩).isSome = true) ∧ (∀ j, j < us.length → X.w.frozen? ⟨b, i * s.sz + off + j, none⟩ = false) := by
  rcases h with ⟨h0, _⟩ | ⟨b', c, ty, fr, g1, g2, g3, g4, g5, g6, g7, g8, g9, g10⟩
  · omega
  rw [hb] at g1
  cases g1
  have hle : i * s.sz + s.sz ≤ c.size := by
    rw [g5]
    calc i * s.sz + s.sz = (i + 1) * s.sz := by rw [Nat.add_mul, Nat.one_mul]
      _ ≤ s.cap * s.sz := Nat.mul_le_mul_right _ (by omega)
  have hfit : i * s.sz + off + us.length ≤ c.size := by omega
  obtain ⟨a1, a2, a3⟩ := setCells_heap b us (i * s.sz + off) X.w c ty fr g3 hfit
  rw [← hw] at a1 a2 a3
  refine ⟨.inr ⟨b, _, ty, fr, hb, g2, a1, fun o ho' => ?_, by simp [wr_length, g5], g6, by rw [hbase]; exact g7, (fun h => by cases h), by rw [hI]; exact g9, fun a j ha hj => ?_⟩, a2, a3, g9 rfl, fun j hj => ?_, fun j hj => g4 _ (by omega)⟩
  · have := g4 o (by simpa [wr_length] using ho')
    simp only [World.frozen?, g3] at this
    simp only [World.frozen?, a1]
    exact this
  · simp only [List.getElem?_toArray]
    rw [wr_get _ _ _ _ (by simpa using hfit)]
    by_cases hk : a = i ∧ off ≤ j ∧ j < off + us.length
    · obtain ⟨rfl, k1, k2⟩ := hk
      rw [if_pos (by omega)]
      have e1 : a * s.sz + j - (a * s.sz + off) = j - off := by omega
      rw [e1]
      have hlt : j - off < us.length := by omega
      refine ⟨us[j - off], List.getElem?_eq_getElem hlt, ?_⟩
      have := h2 (j - off) _ (List.getElem?_eq_getElem hlt)
      rwa [show off + (j - off) = j by omega] at this
    · rw [if_neg (fun hk2 => by
        have e : a * s.sz + j = i * s.sz + (a * s.sz + j - i * s.sz) := by omega
        obtain ⟨q1, q2⟩ := at_of hj (by omega) e
        exact hk ⟨q1, by omega, by omega⟩)]
      obtain ⟨v, hv, hok⟩ := g10 a j ha hj
      exact ⟨v, by simpa using hv, h1 a j v hok hk⟩
  · have hlt : i * s.sz + off + j < c.size := by omega
    simp [World.cell?, g3, hlt]

theorem wrO_get {l : List (List Cell)} {i off : Nat} {cs : List Cell} {a : Nat} : (Ent.wrO l i off cs)[a]? = if i = a then (l[a]?).map fun e => wr e off cs else l[a]? := by
  unfold Ent.wrO
  rw [List.getElem?_modify]
  split <;> simp

theorem wrC_get {l : List (List CV)} {i off : Nat} {cs : List CV} {a : Nat} : (Ent.wrC l i off cs)[a]? = if i = a then (l[a]?).map fun e => wr e off cs else l[a]? := by
  unfold Ent.wrC
  rw [List.getElem?_modify]
  split <;> simp

theorem wr_get_in {α : Type} {e : List α} {off : Nat} {x : List α} {k : Nat} {u : α} (h : off + x.length ≤ e.length) (hk : x[k]? = some u) : (wr e off x)[off + k]? = some u := by
  have hlt := (List.getElem?_eq_some_iff.1 hk).1
  rw [wr_get _ _ _ _ h, if_pos (by omega)]
  rw [show off + k - off = k by omega]
  exact hk

theorem wr_get_out {α : Type} {e : List α} {off : Nat} {x : List α} {k : Nat} (h : off + x.length ≤ e.length) (hk : ¬ (off ≤ k ∧ k < off + x.length)) : (wr e off x)[k]? = e[k]? := by
  rw [wr_get _ _ _ _ h, if_neg hk]

theorem mem_wrO {l : List (List Cell)} {i off : Nat} {cs e : List Cell} (h : e ∈ Ent.wrO l i off cs) : ∃ e0 ∈ l, e.length = e0.length := by
  obtain ⟨a, ha⟩ := List.getElem?_of_mem h
  rw [wrO_get] at ha
  split at ha
  · obtain ⟨e0, h0, rfl⟩ := Option.map_eq_some_iff.1 ha
    exact ⟨e0, List.mem_of_getElem? h0, wr_length _ _ _⟩
  · exact ⟨e, List.mem_of_getElem? ha, rfl⟩

theorem mem_wrC {l : List (List CV)} {i off : Nat} {cs e : List CV} (h : e ∈ Ent.wrC l i off cs) : ∃ e0 ∈ l, e.length = e0.length := by
  obtain ⟨a, ha⟩ := List.getElem?_of_mem h
  rw [wrC_get] at ha
  split at ha
  · obtain ⟨e0, h0, rfl⟩ := Option.map_eq_some_iff.1 ha
    exact ⟨e0, List.mem_of_getElem? h0, wr_length _ _ _⟩
  · exact ⟨e, List.mem_of_getElem? ha, rfl⟩

theorem sizeOf_run {t : TypeId} {n : Nat} (h : pv P (sizeOf t) = some n) (w : World) : (sizeOf t).run P w = .ok n w := pv_run h

theorem storeAt_run {t : TypeId} {n b o : Nat} {v : Value} {us : List Value} {w : World} (hn : pv P (sizeOf t) = some n) (hv : v.cells = us.toArray) (hu : us.length = n)
    (hc : ∀ j, j < us.length → (w.cell? ⟨b, o + j, none⟩).isSome = true) (hf : ∀ j, j < us.length → w.frozen? ⟨b, o + j, none⟩ = false) (h1 : ∀ v ∈ us, v.oneCell' = true) :
    (Instr.storeAt t (.pointer (some ⟨b, o, none⟩)) v).run P w = .ok () (w.setCells b o us) := by
  have hst := run_storeCells_cells (P := P) b o us 0 w (by simpa using hc) (by simpa using hf) h1
  simp only [Nat.add_zero] at hst
  simp [Instr.storeAt, Instr.sureAddr, storeVar, pv_run hn, hv, hu, hst]

/-- A state in which some entries may be changed no more. -/
structure Froze (X Y : Cx) (ms : List Nat) : Prop where
  base : Y.base = X.base
  w0 : Y.w0 = X.w0
  D : Y.D = X.D
  H : Y.H = frzAll X.H ms
  σ : Y.σ = X.σ
  w : Y.w = X.w
  I : ∀ b, Y.I b ↔ X.I b ∨ ∃ id e, id ∈ ms ∧ X.D id ∧ X.H[id]? = some e ∧ (∀ l, e ≠ .mp l) ∧ (X.σ id).blk = some b

theorem frzAll_get : ∀ (ms : List Nat) (H : Hp) (id : Nat), (frzAll H ms)[id]? = if id ∈ ms then (H[id]?).map Ent.frz else H[id]?
  | [], H, id => by simp [frzAll]
  | m :: r, H, id => by
    have : frzAll H (m :: r) = frzAll (H.modify m Ent.frz) r := rfl
    rw [this, frzAll_get r]
    rw [List.getElem?_modify]
    by_cases h : m = id
    · subst h
      simp only [List.mem_cons, true_or, if_true]
      split
      · cases H[m]? with
        | none => rfl
        | some e => cases e <;> rfl
      · rfl
    · have h' : ¬ id = m := fun e => h e.symm
      simp [h, h']

theorem Ent.frz_len (e : Ent) : e.frz.len = e.len := by cases e <;> rfl

section
variable {Y : Cx} {ms : List Nat} (F : Froze X Y ms) (S : SR X)
include F S

omit S in
theorem Froze.get (id : Nat) {e : Ent} (h : X.H[id]? = some e) : ∃ e', Y.H[id]? = some e' ∧ Le e e' ∧ e'.len = e.len := by
  rw [F.H, frzAll_get, h]
  split
  · exact ⟨_, rfl, .inr rfl, e.frz_len⟩
  · exact ⟨_, rfl, .inl rfl, rfl⟩

omit S in
theorem Froze.rc {x : CV} {v : Value} (h : RC X.I X.w x v) : RC Y.I Y.w x v := h.mono (fun b hb => (F.I b).2 (.inl hb)) fun b _ => by rw [F.w]

omit S in
theorem Froze.rpt {p : Pt} {v : Value} (h : RPt X p v) : RPt Y p v := by
  obtain ⟨h0, h1, e, h2, h3, h4⟩ := h
  obtain ⟨e', g1, _, g3⟩ := F.get _ h2
  exact ⟨h0, by rw [F.D]; exact h1, e', g1, by omega, fun he => by rw [F.σ]; exact h4 (by omega)⟩

omit S in
theorem Froze.rcell {c : Cell} {v : Value} (h : RCell X c v) : RCell Y c v := by
  cases c with
  | c x => exact F.rc h
  | sl i o n tot =>
    obtain ⟨h0, h1, e, h2, h3, h4, h5⟩ := h
    obtain ⟨e', g1, _, g3⟩ := F.get _ h2
    exact ⟨h0, by rw [F.D]; exact h1, e', g1, h3, by omega, fun he => by rw [F.σ]; exact h5 (by omega)⟩
  | ptr p => exact F.rpt h
  | fn f caps =>
    obtain ⟨vs, h1, h2, h3⟩ := h
    refine ⟨vs, h1, h2, fun j x y hx hy => ?_⟩
    have := h3 j x y hx hy
    cases x with
    | inl x => exact F.rc this
    | inr p => exact F.rpt this
  | mp i =>
    obtain ⟨h1, l, b, h2, h3⟩ := h
    obtain ⟨e', g1, g2, _⟩ := F.get _ h2
    have : e' = .mp l := by rcases g2 with rfl | rfl <;> rfl
    subst this
    exact ⟨by rw [F.D]; exact h1, l, b, g1, by rw [F.σ]; exact h3⟩

omit S in
theorem Froze.rcells {l : List Cell} {vs : List Value} (h : RCells X l vs) : RCells Y l vs := ⟨h.1, fun j c y hc hy => F.rcell (h.2 j c y hc hy)⟩

omit S in
theorem Froze.ra {a : AV} {v : Value} (h : RA X a v) : RA Y a v := by
  cases a with
  | one c => exact F.rcell h
  | agg l =>
    obtain ⟨vs, h1, h2⟩ := h
    exact ⟨vs, h1, F.rcells h2⟩
  | tup l =>
    obtain ⟨vs, h1, h2, h3⟩ := h
    refine ⟨vs, h1, h2, fun j p y hp hy => ?_⟩
    have := h3 j p y hp hy
    unfold RP at *
    split
    · rename_i hb
      rw [if_pos hb] at this
      obtain ⟨us, a1, a2⟩ := this
      exact ⟨us, a1, F.rcells a2⟩
    · rename_i hb
      rw [if_neg hb] at this
      obtain ⟨c, a1, a2⟩ := this
      exact ⟨c, a1, F.rcell a2⟩

theorem Froze.sr (M : Dom X) : SR Y where
  ent id e hd he := by
    rw [F.D] at hd
    rw [F.H, frzAll_get] at he
    obtain ⟨e0, h0⟩ := M id hd
    have hent := S.ent id e0 hd h0
    rw [F.σ]
    rw [h0] at he
    have row : ∀ {n : Nat} {fz fz' : Bool} {ok ok' : Nat → Nat → Value → Prop}, (fz' = fz ∨ (fz' = true ∧ id ∈ ms ∧ ∀ l, e0 ≠ .mp l)) → (fz' = fz → id ∈ ms → fz = true ∨ ∃ l, e0 = .mp l) → (∀ i j v, ok i j v → ok' i j v) → Row X (X.σ id) n fz ok → Row Y (X.σ id) n fz' ok' := by
      intro n fz fz' ok ok' hz hz2 hok hrow
      rcases hrow with h | ⟨b, c, ty, fr, g1, g2, g3, g4, g5, g6, g7, g8, g9, g10⟩
      · exact .inl h
      refine .inr ⟨b, c, ty, fr, g1, g2, by rw [F.w]; exact g3, by rw [F.w]; exact g4, g5, g6, by rw [F.base]; exact g7, fun hf => ?_, fun hf => ?_, fun i j hi hj => ?_⟩
      · rcases hz with hz | ⟨hz, hm, hmp⟩
        · exact (F.I b).2 (.inl (g8 (by rw [← hz]; exact hf)))
        · exact (F.I b).2 (.inr ⟨id, e0, hm, hd, h0, hmp, g1⟩)
      · intro hb
        rcases hz with hz | ⟨hz, hm, hmp⟩
        · rcases (F.I b).1 hb with hb | ⟨id', e', k1, k2, k3, k4, k5⟩
          · exact g9 (by rw [← hz]; exact hf) hb
          · by_cases hid : id' = id
            · subst hid
              rw [h0] at k3
              cases k3
              rcases hz2 hz k1 with h | ⟨l, h⟩
              · rw [hz, h] at hf; cases hf
              · exact k4 l h
            · exact S.inj _ _ b k2 hd hid k5 g1
        · rw [hz] at hf; cases hf
      · obtain ⟨v, hv, ho⟩ := g10 i j hi hj
        exact ⟨v, hv, hok i j v ho⟩
    have main : ∀ e', (if id ∈ ms then some e0.frz else some e0) = some e' → REnt Y (X.σ id) e' := by
      intro e' he'
      by_cases hm : id ∈ ms
      · rw [if_pos hm] at he'
        cases he'
        cases e0 with
        | clo l f => exact ⟨hent.1, row (.inr ⟨rfl, hm, fun l => by simp⟩) (fun h _ => .inl h.symm) (fun i j v ⟨e, x, a, b, c⟩ => ⟨e, x, a, b, F.rc c⟩) hent.2⟩
        | opn l f => exact ⟨hent.1, row (.inr ⟨rfl, hm, fun l => by simp⟩) (fun h _ => .inl h.symm) (fun i j v ⟨e, x, a, b, c⟩ => ⟨e, x, a, b, F.rcell c⟩) hent.2⟩
        | mp l =>
          obtain ⟨b, es, ck, g1, g2, g3, g4, g5, g6⟩ := hent
          refine ⟨b, es, ck, g1, by rw [F.w]; exact g2, by rw [F.base]; exact g3, fun hb => ?_, g5, fun j p y hp hy => ?_⟩
          · rcases (F.I b).1 hb with hb | ⟨id', e', k1, k2, k3, k4, k5⟩
            · exact g4 hb
            · by_cases hid : id' = id
              · subst hid
                rw [h0] at k3
                cases k3
                exact k4 l rfl
              · exact S.inj _ _ b k2 hd hid k5 g1
          · obtain ⟨hk, x, a1, a2⟩ := g6 j p y hp hy
            exact ⟨hk, x, a1, F.rc a2⟩
      · rw [if_neg hm] at he'
        cases he'
        cases e0 with
        | clo l f => exact ⟨hent.1, row (.inl rfl) (fun _ h => absurd h hm) (fun i j v ⟨e, x, a, b, c⟩ => ⟨e, x, a, b, F.rc c⟩) hent.2⟩
        | opn l f => exact ⟨hent.1, row (.inl rfl) (fun _ h => absurd h hm) (fun i j v ⟨e, x, a, b, c⟩ => ⟨e, x, a, b, F.rcell c⟩) hent.2⟩
        | mp l =>
          obtain ⟨b, es, ck, g1, g2, g3, g4, g5, g6⟩ := hent
          refine ⟨b, es, ck, g1, by rw [F.w]; exact g2, by rw [F.base]; exact g3, fun hb => ?_, g5, fun j p y hp hy => ?_⟩
          · rcases (F.I b).1 hb with hb | ⟨id', e', k1, k2, k3, k4, k5⟩
            · exact g4 hb
            · by_cases hid : id' = id
              · subst hid
                rw [h0] at k3
                cases k3
                exact k4 l rfl
              · exact S.inj _ _ b k2 hd hid k5 g1
          · obtain ⟨hk, x, a1, a2⟩ := g6 j p y hp hy
            exact ⟨hk, x, a1, F.rc a2⟩
    exact main e (by simpa using he)
  inj i j b hi hj := by
    rw [F.D] at hi hj
    rw [F.σ]
    exact S.inj i j b hi hj
  size := by rw [F.base, F.w]; exact S.size
  old b hb := by rw [F.w, F.w0]; rw [F.base] at hb; exact S.old b hb
  imm b hb := by
    rw [F.w]
    rcases (F.I b).1 hb with hb | ⟨id, e, k1, k2, k3, k4, k5⟩
    · exact S.imm b hb
    · exact (S.blk M id b k2 k5).1
  kp := by rw [F.w, F.w0]; exact S.kp
  tab := by rw [F.base, F.w0]; exact S.tab

omit S in
theorem Froze.dom (M : Dom X) : Dom Y := fun id hd => by
  rw [F.D] at hd
  obtain ⟨e, he⟩ := M id hd
  obtain ⟨e', h, _⟩ := F.get id he
  exact ⟨e', h⟩

omit S in
theorem Froze.given (M : Dom X) : Given Y ms := fun id hi hd => by
  rw [F.D] at hd
  obtain ⟨e, he⟩ := M id hd
  refine ⟨e.frz, by rw [F.H, frzAll_get, if_pos hi, he]; rfl, by cases e <;> rfl⟩
end

def frozeOf (X : Cx) (ms : List Nat) : Cx :=
  { X with H := frzAll X.H ms, I := fun b => X.I b ∨ ∃ id e, id ∈ ms ∧ X.D id ∧ X.H[id]? = some e ∧ (∀ l, e ≠ .mp l) ∧ (X.σ id).blk = some b }

theorem frozeOf_is (X : Cx) (ms : List Nat) : Froze X (frozeOf X ms) ms := ⟨rfl, rfl, rfl, rfl, rfl, rfl, fun _ => Iff.rfl⟩

end Go.Proofs.Vm
end

section
/- Stores and appends, as steps. -/
namespace Go.Proofs.Vm
open Go

variable {P : Program} {X : Cx}

/-- From one state to the next one. -/
structure Nxt (X Y : Cx) : Prop where
  sr : SR Y
  dom : Dom Y
  base : Y.base = X.base
  w0 : Y.w0 = X.w0
  D : ∀ id, X.D id → Y.D id
  I : ∀ b, X.I b → Y.I b
  I' : ∀ b, Y.I b → X.I b ∨ X.base ≤ b
  ra : ∀ a v, RA X a v → RA Y a v

theorem Nxt.refl (S : SR X) (M : Dom X) : Nxt X X := ⟨S, M, rfl, rfl, fun _ h => h, fun _ h => h, fun _ h => .inl h, fun _ _ h => h⟩

theorem Nxt.trans {X Y Z : Cx} (a : Nxt X Y) (b : Nxt Y Z) : Nxt X Z :=
  ⟨b.sr, b.dom, b.base.trans a.base, b.w0.trans a.w0, fun id h => b.D id (a.D id h), fun x h => b.I x (a.I x h), fun x h => (b.I' x h).elim (a.I' x) (fun h => .inr (a.base ▸ h)), fun _ _ h => b.ra _ _ (a.ra _ _ h)⟩

theorem Made.nxt {Y : Cx} {n k : Nat} (S : SR X) (h : Made X Y n k) : Nxt X Y :=
  ⟨h.sr, h.dom, h.ext.base, h.ext.w0, h.ext.D, h.ext.I, fun b hb => (h.I' b hb).elim .inl fun hb => .inr (Nat.le_trans S.size hb), fun _ _ hr => h.ext.ra S hr⟩

theorem Wrote.nxt {Y : Cx} {id : Nat} (W : Wrote X Y id) (S : SR X) (M : Dom X) (hS : SR Y) : Nxt X Y :=
  ⟨hS, W.dom M, W.base, W.w0, fun i h => (W.D i).2 h, fun b h => by rw [W.I]; exact h, fun b h => .inl (by rw [W.I] at h; exact h), fun _ _ h => W.ra S h⟩

theorem Froze.nxt {Y : Cx} {ms : List Nat} (F : Froze X Y ms) (S : SR X) (M : Dom X) : Nxt X Y :=
  ⟨F.sr S M, F.dom M, F.base, F.w0, fun i h => by rw [F.D]; exact h, fun b h => (F.I b).2 (.inl h), fun b h => ((F.I b).1 h).elim .inl (fun ⟨id, e, k1, k2, k3, k4, k5⟩ => .inr (S.blk M id b k2 k5).2), fun _ _ h => F.ra h⟩

theorem set_get {H : Hp} {id i : Nat} {e : Ent} (h : i ≠ id) : (H.set id e)[i]? = H[i]? := List.getElem?_set_ne (fun e => h e.symm)

theorem set_self {H : Hp} {id : Nat} {e e0 : Ent} (h : H[id]? = some e0) : (H.set id e)[id]? = some e := List.getElem?_set_self (List.getElem?_eq_some_iff.1 h).1

/-- A row is written in place. -/
theorem wrote_of (_S : SR X) {id b off : Nat} {us : List Value} {e e' : Ent} (hd : X.D id) (he : X.H[id]? = some e) (hl : e'.len = e.len) (hmp : ∀ l, e ≠ .mp l) (hb : (X.σ id).blk = some b) (hnI : ¬ X.I b)
    (h1 : ∀ k, k ≠ b → (X.w.setCells b off us).heap[k]? = X.w.heap[k]?) (h2 : (X.w.setCells b off us).heap.size = X.w.heap.size) :
    Wrote X { X with H := X.H.set id e', w := X.w.setCells b off us } id :=
  ⟨rfl, rfl, fun _ => Iff.rfl, fun _ _ _ => rfl, rfl, fun i hi => set_get hi, Nat.le_of_eq h2.symm, fun k _ hk => h1 k (hk b hb), ⟨e, e', he, set_self he, by omega, fun _ => rfl, fun l h => absurd h (hmp l)⟩, hd, setCells_stl _ _ _ _, fun k hk => by rw [hb] at hk; cases hk; exact hnI⟩

theorem vstore_does (S : SR X) (M : Dom X) {nest : Bool} {t : TypeId} {a x : AV} {H' : Hp} (h : vstore P nest X.H t a x = some H') {v u : Value} (hv : RA X a v) (hu : RA X x u) :
    ∃ Y, (Instr.storeAt t v u).run P X.w = .ok () Y.w ∧ Nxt X Y ∧ Y.H = H' ∧ Y.D = X.D := by
  unfold vstore at h
  split at h
  case h_2 => cases h
  rename_i p cs hcs
  obtain ⟨us, hus, hr⟩ := cells_of hcs hu
  obtain ⟨_, hd, e0, he0, hle, hp⟩ := hv
  split at h
  · rename_i l n hl hn
    rw [he0] at hl
    cases hl
    split at h
    case isFalse => cases h
    rename_i hc
    split at h
    case h_2 => cases h
    rename_i e hei
    split at h
    case isFalse => cases h
    rename_i hfit
    cases h
    obtain ⟨b, hb, rfl⟩ := hp hc.1
    have hent := S.ent _ _ hd he0
    have hi := (List.getElem?_eq_some_iff.1 hei).1
    have hesz := hent.1 e (List.mem_of_getElem? hei)
    have husl : us.length = n := by rw [← hr.1]; exact hc.2
    let Y : Cx := { X with H := X.H.set p.id (.opn (Ent.wrO l p.i p.off cs) false), w := X.w.setCells b (p.i * (X.σ p.id).sz + p.off) us }
    have hlen : (Ent.wrO l p.i p.off cs).length = l.length := by simp [Ent.wrO]
    obtain ⟨r1, r2, r3, r4, r5, r6⟩ := row_wr (Y := Y) (ok' := okO X (Ent.wrO l p.i p.off cs)) hent.2 hb (i := p.i) (off := p.off) (us := us) hi (by omega) rfl rfl rfl
      (fun a j v ⟨e1, x, q1, q2, q3⟩ hne => by
        by_cases hai : a = p.i
        · subst hai
          rw [hei] at q1
          cases q1
          exact ⟨_, x, by rw [wrO_get, if_pos rfl, hei]; rfl, by rw [wr_get_out (by rw [hc.2]; exact hfit) (fun hk => hne ⟨rfl, hk.1, by rw [husl, ← hc.2]; exact hk.2⟩)]; exact q2, q3⟩
        · exact ⟨e1, x, by rw [wrO_get, if_neg (fun e => hai e.symm)]; exact q1, q2, q3⟩)
      (fun k u hk => by
        have hkc : k < cs.length := by rw [hr.1]; exact (List.getElem?_eq_some_iff.1 hk).1
        exact ⟨_, cs[k], by rw [wrO_get, if_pos rfl, hei]; rfl, wr_get_in (by rw [hc.2]; exact hfit) (List.getElem?_eq_getElem hkc), hr.2 k _ u (List.getElem?_eq_getElem hkc) hk⟩)
    have W : Wrote X Y p.id := wrote_of S hd he0 (e' := .opn (Ent.wrO l p.i p.off cs) false) (by simp [Ent.len, hlen]) (fun l h => by cases h) hb r4 r2 r3
    have SY : SR Y := W.sr S M (fun e h => by
      have : Y.H[p.id]? = some (.opn (Ent.wrO l p.i p.off cs) false) := set_self he0
      rw [this] at h
      cases h
      refine ⟨fun e he => ?_, ?_⟩
      · obtain ⟨e1, h1, h2⟩ := mem_wrO he
        rw [h2]
        exact hent.1 e1 h1
      · rw [hlen]
        rcases r1 with h | ⟨b', c, ty, fr, g1, g2, g3, g4, g5, g6, g7, g8, g9, g10⟩
        · exact .inl h
        · refine .inr ⟨b', c, ty, fr, g1, g2, g3, g4, g5, g6, g7, g8, g9, fun i j hi hj => ?_⟩
          obtain ⟨v, hv, e1, x, q1, q2, q3⟩ := g10 i j hi hj
          exact ⟨v, hv, e1, x, q1, q2, W.rcell S q3⟩) (fun b' h => .inl h)
    exact ⟨Y, storeAt_run hn hus husl r5 r6 hr.one, W.nxt S M SY, rfl, rfl⟩
  · rename_i l n hl hn
    rw [he0] at hl
    cases hl
    split at h
    case isFalse => cases h
    rename_i hc
    split at h
    · -- what is stored may change yet: the row becomes an open one
      split at h
      case h_2 => cases h
      rename_i e hei
      split at h
      case isFalse => cases h
      rename_i hfit
      cases h
      obtain ⟨b, hb, rfl⟩ := hp hc.1
      have hent := S.ent _ _ hd he0
      have hi := (List.getElem?_eq_some_iff.1 hei).1
      have hesz := hent.1 e (List.mem_of_getElem? hei)
      have husl : us.length = n := by rw [← hr.1]; exact hc.2
      let L : List (List Cell) := l.map fun (e : List CV) => e.map .c
      let Y : Cx := { X with H := X.H.set p.id (.opn (Ent.wrO L p.i p.off cs) false), w := X.w.setCells b (p.i * (X.σ p.id).sz + p.off) us }
      have hlen : (Ent.wrO L p.i p.off cs).length = l.length := by simp [Ent.wrO, L]
      have hLget : ∀ a : Nat, L[a]? = (l[a]?).map fun (e : List CV) => e.map .c := fun a => by simp [L]
      obtain ⟨r1, r2, r3, r4, r5, r6⟩ := row_wr (Y := Y) (ok' := okO X (Ent.wrO L p.i p.off cs)) hent.2 hb (i := p.i) (off := p.off) (us := us) hi (by omega) rfl rfl rfl
        (fun a j v ⟨e1, x, q1, q2, q3⟩ hne => by
          by_cases hai : a = p.i
          · subst hai
            rw [hei] at q1
            cases q1
            refine ⟨_, .c x, by rw [wrO_get, if_pos rfl, hLget, hei]; rfl, ?_, q3⟩
            rw [wr_get_out (by simpa [hc.2] using hfit) (fun hk => hne ⟨rfl, hk.1, by rw [husl, ← hc.2]; exact hk.2⟩), List.getElem?_map, q2]
            rfl
          · refine ⟨e1.map .c, .c x, by rw [wrO_get, if_neg (fun e => hai e.symm), hLget, q1]; rfl, ?_, q3⟩
            rw [List.getElem?_map, q2]
            rfl)
        (fun k u hk => by
          have hkc : k < cs.length := by rw [hr.1]; exact (List.getElem?_eq_some_iff.1 hk).1
          exact ⟨_, cs[k], by rw [wrO_get, if_pos rfl, hLget, hei]; rfl, wr_get_in (by simpa [hc.2] using hfit) (List.getElem?_eq_getElem hkc), hr.2 k _ u (List.getElem?_eq_getElem hkc) hk⟩)
      have W : Wrote X Y p.id := wrote_of S hd he0 (e' := .opn (Ent.wrO L p.i p.off cs) false) (by simp [Ent.len, hlen]) (fun l h => by cases h) hb r4 r2 r3
      have SY : SR Y := W.sr S M (fun e h => by
        have : Y.H[p.id]? = some (.opn (Ent.wrO L p.i p.off cs) false) := set_self he0
        rw [this] at h
        cases h
        refine ⟨fun e he => ?_, ?_⟩
        · obtain ⟨e1, h1, h2⟩ := mem_wrO he
          rw [h2]
          obtain ⟨e2, h3, rfl⟩ := List.mem_map.1 h1
          rw [List.length_map]
          exact hent.1 e2 h3
        · rw [hlen]
          rcases r1 with h | ⟨b', c, ty, fr, g1, g2, g3, g4, g5, g6, g7, g8, g9, g10⟩
          · exact .inl h
          · refine .inr ⟨b', c, ty, fr, g1, g2, g3, g4, g5, g6, g7, g8, g9, fun i j hi hj => ?_⟩
            obtain ⟨v, hv, e1, x, q1, q2, q3⟩ := g10 i j hi hj
            exact ⟨v, hv, e1, x, q1, q2, W.rcell S q3⟩) (fun b' h => .inl h)
      exact ⟨Y, storeAt_run hn hus husl r5 r6 hr.one, W.nxt S M SY, rfl, rfl⟩
    split at h
    case h_2 => cases h
    rename_i e xs hei hxs
    dsimp only at h
    split at h
    case isFalse => cases h
    rename_i hfit
    cases h
    -- what is stored is given up first
    let ms := (cs.map (rch 5 X.H)).flatten
    have F := frozeOf_is X ms
    have N1 := F.nxt S M
    have hgv : Gives X (frozeOf X ms).I ms := fun id hi hd e he hm b hb => (F.I b).2 (.inr ⟨id, e, hi, hd, he, hm, hb⟩)
    have hks := fzl_sound S (fun b hb => (F.I b).2 (.inl hb)) hxs hr hgv
    have he1 : (frozeOf X ms).H[p.id]? = some (.clo l false) := by
      show (frzAll X.H ms)[p.id]? = _
      rw [frzAll_get, if_neg hfit.2]
      exact he0
    have S1 := N1.sr
    have M1 := N1.dom
    have hd1 : (frozeOf X ms).D p.id := hd
    obtain ⟨b, hb, rfl⟩ := hp hc.1
    have hb1 : ((frozeOf X ms).σ p.id).blk = some b := hb
    have hent := S1.ent _ _ hd1 he1
    have hi := (List.getElem?_eq_some_iff.1 hei).1
    have hesz := hent.1 e (List.mem_of_getElem? hei)
    have husl : us.length = n := by rw [← hr.1]; exact hc.2
    have hxl : xs.length = n := by rw [← (mapO_spec hxs).1]; exact hc.2
    let Y : Cx := { frozeOf X ms with H := (frozeOf X ms).H.set p.id (.clo (Ent.wrC l p.i p.off xs) false), w := X.w.setCells b (p.i * (X.σ p.id).sz + p.off) us }
    have hlen : (Ent.wrC l p.i p.off xs).length = l.length := by simp [Ent.wrC]
    obtain ⟨r1, r2, r3, r4, r5, r6⟩ := row_wr (X := frozeOf X ms) (Y := Y) (ok' := okC (frozeOf X ms) (Ent.wrC l p.i p.off xs)) hent.2 hb1 (i := p.i) (off := p.off) (us := us) hi (by omega) rfl rfl rfl
      (fun a j v ⟨e1, x, q1, q2, q3⟩ hne => by
        by_cases hai : a = p.i
        · subst hai
          rw [hei] at q1
          cases q1
          exact ⟨_, x, by rw [wrC_get, if_pos rfl, hei]; rfl, by rw [wr_get_out (by rw [hxl]; exact hfit.1) (fun hk => hne ⟨rfl, hk.1, by rw [husl, ← hxl]; exact hk.2⟩)]; exact q2, q3⟩
        · exact ⟨e1, x, by rw [wrC_get, if_neg (fun e => hai e.symm)]; exact q1, q2, q3⟩)
      (fun k u hk => by
        have hkc : k < xs.length := by rw [hxl, ← husl]; exact (List.getElem?_eq_some_iff.1 hk).1
        exact ⟨_, xs[k], by rw [wrC_get, if_pos rfl, hei]; rfl, wr_get_in (by rw [hxl]; exact hfit.1) (List.getElem?_eq_getElem hkc), hks.2 k _ u (List.getElem?_eq_getElem hkc) hk⟩)
    have W : Wrote (frozeOf X ms) Y p.id := wrote_of S1 hd1 he1 (e' := .clo (Ent.wrC l p.i p.off xs) false) (by simp [Ent.len, hlen]) (fun l h => by cases h) hb1 r4 r2 r3
    have SY : SR Y := W.sr S1 M1 (fun e h => by
      have : Y.H[p.id]? = some (.clo (Ent.wrC l p.i p.off xs) false) := set_self he1
      rw [this] at h
      cases h
      refine ⟨fun e he => ?_, ?_⟩
      · obtain ⟨e1, h1, h2⟩ := mem_wrC he
        rw [h2]
        exact hent.1 e1 h1
      · rw [hlen]
        rcases r1 with h | ⟨b', c, ty, fr, g1, g2, g3, g4, g5, g6, g7, g8, g9, g10⟩
        · exact .inl h
        · refine .inr ⟨b', c, ty, fr, g1, g2, g3, g4, g5, g6, g7, g8, g9, fun i j hi hj => ?_⟩
          obtain ⟨v, hv, e1, x, q1, q2, q3⟩ := g10 i j hi hj
          exact ⟨v, hv, e1, x, q1, q2, W.rc S1 q3⟩) (fun b' h => .inl h)
    exact ⟨Y, storeAt_run hn hus husl r5 r6 hr.one, N1.trans (W.nxt S1 M1 SY), rfl, rfl⟩
  · cases h

theorem vstore_len {nest : Bool} {H H' : Hp} {t : TypeId} {a x : AV} (hst : vstore P nest H t a x = some H') : H'.length = H.length := by
  unfold vstore at hst
  split at hst
  case h_2 => cases hst
  split at hst
  · split at hst
    case isFalse => cases hst
    split at hst
    case h_2 => cases hst
    split at hst
    case isFalse => cases hst
    cases hst
    simp
  · split at hst
    case isFalse => cases hst
    split at hst
    · split at hst
      case h_2 => cases hst
      split at hst
      case isFalse => cases hst
      cases hst
      simp
    · split at hst
      case h_2 => cases hst
      dsimp only at hst
      split at hst
      case isFalse => cases hst
      cases hst
      have key : ∀ (ms : List Nat) (H : Hp), (frzAll H ms).length = H.length := by
        intro ms
        induction ms with
        | nil => intro H; rfl
        | cons m r ih => intro H; show (frzAll (H.modify m Ent.frz) r).length = _; rw [ih]; simp
      simp [key]
  · cases hst

/-- What is known of a function that shares its caller's memory. -/
def SCtr (P : Program) (f : FuncId) (args : List AV) (H : Hp) (r : AV) (H' : Hp) : Prop :=
  ∀ X, SR X → Dom X → X.H = H → (∀ id, X.D id ↔ id < H.length) → ∀ vals : List Value, RAs X args vals →
    Calls P f vals.toArray X.w fun e w' => ∃ v Y, e = .returned v ∧ Y.w = w' ∧ Nxt X Y ∧ Y.H = H' ∧ (∀ id, Y.D id ↔ id < H'.length) ∧ RA Y r v

/-- A function of the library's that lays what it makes behind what is there, and turns nothing else. -/
def isCl (P : Program) (f : FuncId) : Bool := match P.funcs[f]? with
  | some fn => fn.origin == "slices.Clone"
  | none => false
def Gr (P : Program) (f : FuncId) (H L : Hp) : Prop := H.length ≤ L.length ∧ (isCl P f = true → H <+: L)
@[simp] theorem gr_iff {P : Program} {f : FuncId} {H L : Hp} : Gr P f H L ↔ H.length ≤ L.length ∧ (isCl P f = true → H <+: L) := Iff.rfl
def ShOk (P : Program) (T : Tab) : Prop := ∀ f args H r H', T.S f args H = some (r, H') → Gr P f H H' ∧ FnOk P f ∧ SCtr P f args H r H'

def TOk (P : Program) (T : Tab) : Prop := PuOk P T ∧ ShOk P T

end Go.Proofs.Vm
end

section
/- Append. -/
namespace Go.Proofs.Vm
open Go

variable {P : Program} {X : Cx}

/-- The elements of a slice. -/
def elemsOf (H : Hp) (a : AV) : Option (List (List CV)) :=
  match a with
  | .one (.sl id o n tot) => match H[id]? with
    | some (.clo l _) => if l.length = tot then some ((l.drop o).take n) else none
    | _ => none
  | .one (.c (.arr l)) => some l
  | .one (.c (.v (.slice _ 0 _))) => some []
  | _ => none

def vappend (P : Program) (H : Hp) (t tx : TypeId) (s x : AV) : Option (AV × Hp) :=
  match s, elemsOf H x, elemOfSlice P t, elemOfSlice P tx with
  | .one (.sl id o n tot), some xs, some e, some _ => match H[id]?, pv P (typeInfo e), pv P (zeroValue e) with
    | some (.clo l false), some i, some z =>
      if o = 0 ∧ n = tot ∧ l.length = tot ∧ (∀ e ∈ l, e.length = i.size) ∧ (∀ e ∈ xs, e.length = i.size) ∧ z.cells.size = i.size ∧ small i.bytes (tot + xs.length) = true ∧ tot + xs.length ≤ 4611686018427387904 then
        some (.one (.sl id 0 (tot + xs.length) (tot + xs.length)), H.set id (.clo (l ++ xs) false)) else none
    | _, _, _ => none
  | _, _, _, _ => none

theorem elemsOf_sound (S : SR X) {a : AV} {xs : List (List CV)} (h : elemsOf X.H a = some xs) {v : Value} (hv : RA X a v) {sz : Nat} (hsz : ∀ e ∈ xs, e.length = sz) :
    ∃ (ad : Option Addr) (cap : Nat) (news : List Value), v = .slice ad xs.length cap ∧ news.length = xs.length * sz ∧ (∀ u ∈ news, u.oneCell' = true) ∧
      (xs = [] ∨ ∃ b o, ad = some ⟨b, o, none⟩ ∧ b < X.w.heap.size ∧ ∀ (j : Nat) u, news[j]? = some u → X.w.cell? ⟨b, o + j, none⟩ = some u) ∧
      ∀ i j, i < xs.length → j < sz → ∃ u, news[i * sz + j]? = some u ∧ okC X xs i j u := by
  -- a row of values out of a grid
  have mk : ∀ (F : Nat → Nat → Value) (b o sz0 : Nat), (xs ≠ [] → sz0 = sz) → b < X.w.heap.size → (∀ i j, i < xs.length → j < sz0 → X.w.cell? ⟨b, o + (i * sz0 + j), none⟩ = some (F i j) ∧ okC X xs i j (F i j)) →
      ∃ news : List Value, news.length = xs.length * sz ∧ (∀ u ∈ news, u.oneCell' = true) ∧ (∀ (j : Nat) u, news[j]? = some u → X.w.cell? ⟨b, o + j, none⟩ = some u) ∧
        ∀ i j, i < xs.length → j < sz → ∃ u, news[i * sz + j]? = some u ∧ okC X xs i j u := by
    intro F b o sz0 hz hb hF
    have get : ∀ k, k < xs.length * sz → ∃ i j, i < xs.length ∧ j < sz ∧ k = i * sz + j ∧ k / sz = i ∧ k % sz = j := by
      intro k hk
      have hpos : 0 < sz := Nat.pos_of_ne_zero fun e => by rw [e, Nat.mul_zero] at hk; omega
      refine ⟨k / sz, k % sz, ?_, Nat.mod_lt _ hpos, ?_, rfl, rfl⟩
      · rw [Nat.div_lt_iff_lt_mul hpos]; exact hk
      · rw [Nat.mul_comm]; exact (Nat.div_add_mod k sz).symm
    have hz' : ∀ {i}, i < xs.length → sz0 = sz := fun hi => hz (fun e => by rw [e] at hi; cases hi)
    refine ⟨(List.range (xs.length * sz)).map fun k => F (k / sz) (k % sz), by simp, fun u hu => ?_, fun j u hj => ?_, fun i j hi hj => ?_⟩
    · obtain ⟨k, hk, rfl⟩ := List.mem_map.1 hu
      obtain ⟨i, j, hi, hj, _, e1, e2⟩ := get k (List.mem_range.1 hk)
      rw [e1, e2]
      obtain ⟨_, e, x, _, _, hr⟩ := hF i j hi (by rw [hz' hi]; exact hj)
      exact hr.one
    · have hlt : j < xs.length * sz := by
        have := (List.getElem?_eq_some_iff.1 hj).1
        simpa using this
      rw [List.getElem?_map, List.getElem?_range hlt] at hj
      cases hj
      obtain ⟨i, k, hi, hk, e0, e1, e2⟩ := get j hlt
      have := (hF i k hi (by rw [hz' hi]; exact hk)).1
      rw [hz' hi] at this
      show _ = some (F (j / sz) (j % sz))
      rw [e1, e2, ← this, ← e0]
    · have hlt : i * sz + j < xs.length * sz := by
        calc i * sz + j < i * sz + sz := by omega
          _ = (i + 1) * sz := by rw [Nat.add_mul, Nat.one_mul]
          _ ≤ xs.length * sz := Nat.mul_le_mul_right _ (by omega)
      obtain ⟨a, k, ha, hk, e0, e1, e2⟩ := get _ hlt
      obtain ⟨rfl, rfl⟩ := at_of hj hk e0
      refine ⟨F i j, ?_, (hF i j hi (by rw [hz' hi]; exact hj)).2⟩
      rw [List.getElem?_map, List.getElem?_range hlt]
      simp only [Option.map_some, e1, e2]
  unfold elemsOf at h
  split at h
  · rename_i id o n tot
    obtain ⟨_, hd, e, he, hle, hle2, hp⟩ := hv
    split at h
    case h_2 => cases h
    rename_i l f hl
    rw [he] at hl
    cases hl
    split at h
    case isFalse => cases h
    rename_i hlen
    cases h
    obtain ⟨ad, cap, rfl, hnc, had, _⟩ := hp hlen
    have hn : ((l.drop o).take n).length = n := by simp; omega
    by_cases hn0 : n = 0
    · subst hn0
      exact ⟨ad, cap, [], by simp, by simp, by simp, .inl (by simp), fun i j hi => by simp at hi⟩
    · obtain ⟨b, hb, rfl⟩ := had hn0
      have hent := S.ent _ _ hd he
      obtain ⟨F, hF⟩ := row_all hent.2 hb
      have hlt := (hent.2.lt hb).1
      obtain ⟨news, g1, g2, g3, g4⟩ := mk (fun i j => F (o + i) j) b (o * (X.σ id).sz) (X.σ id).sz (fun hne => by
        obtain ⟨y, hy⟩ := List.exists_mem_of_ne_nil _ hne
        rw [← hsz y hy, hent.1 y (List.mem_of_mem_drop (List.mem_of_mem_take hy))]) hlt (fun i j hi hj => by
          rw [hn] at hi
          obtain ⟨q1, e, x, q2, q3, q4⟩ := hF (o + i) j (by omega) hj
          refine ⟨by rw [← q1, Nat.add_mul, Nat.add_assoc], e, x, ?_, q3, q4⟩
          rw [List.getElem?_take, if_pos hi, List.getElem?_drop]
          exact q2)
      exact ⟨_, cap, news, by rw [hn], g1, g2, .inr ⟨b, _, rfl, hlt, g3⟩, g4⟩
  · rename_i l
    cases h
    cases hv with
    | arr l a cap sz' f hc hs ha hr =>
      by_cases hne : xs = []
      · subst hne
        exact ⟨a, cap, [], rfl, by simp, by simp, .inl rfl, fun i j hi => by simp at hi⟩
      · obtain ⟨b, o, rfl, hI, hcell⟩ := ha hne
        obtain ⟨news, g1, g2, g3, g4⟩ := mk f b o sz' (fun hne => by
          obtain ⟨y, hy⟩ := List.exists_mem_of_ne_nil _ hne
          rw [← hsz y hy, hs y hy]) (S.imm b hI) (fun i j hi hj => by
            refine ⟨hcell i j hi hj, xs[i], (xs[i])[j]'(by rw [hs _ (List.getElem_mem hi)]; exact hj), List.getElem?_eq_getElem hi, List.getElem?_eq_getElem _, hr _ _ _ _ (List.getElem?_eq_getElem hi) (List.getElem?_eq_getElem _)⟩)
        exact ⟨_, cap, news, rfl, g1, g2, .inr ⟨b, o, rfl, S.imm b hI, g3⟩, g4⟩
  · rename_i ad cap
    cases h
    cases hv
    exact ⟨ad, cap, [], rfl, by simp, by simp, .inl rfl, fun i j hi => by simp at hi⟩
  · cases h

theorem set_same {H : Hp} {id : Nat} {e : Ent} (h : H[id]? = some e) : H.set id e = H := by
  apply List.ext_getElem?
  intro i
  by_cases hi : i = id
  · subst hi
    rw [set_self h, h]
  · rw [set_get hi]

theorem vappend_does (S : SR X) (M : Dom X) {t tx ty : TypeId} {s x : AV} {r : AV × Hp} (h : vappend P X.H t tx s x = some r) {v u : Value} (hv : RA X s v) (hu : RA X x u) :
    ∃ y Y, (Builtin.append_ #[t, tx] ty #[v, u]).run P X.w = .ok y Y.w ∧ Nxt X Y ∧ Y.H = r.2 ∧ Y.D = X.D ∧ RA Y r.1 y := by
  unfold vappend at h
  split at h
  case h_2 => cases h
  rename_i id o n tot xs e ex hx he hex
  split at h
  case h_2 => cases h
  rename_i l i z hl hi hz
  split at h
  case isFalse => cases h
  rename_i hc
  obtain ⟨rfl, rfl, hlen, hsl, hsx, hzs, hsm, h62⟩ := hc
  cases h
  have hii := typeInfo_run hi
  have hzz := zero_run hii hz
  have hsm' : i.bytes * (n + xs.length) ≤ 140737488355328 := by
    unfold small at hsm
    simpa using hsm
  obtain ⟨_, hd, e0, he0, hle, hle2, hp⟩ := hv
  rw [hl] at he0
  cases he0
  obtain ⟨ad, cap, rfl, hnc, had, hfull⟩ := hp hlen
  obtain ⟨rfl, rfl⟩ := hfull rfl rfl
  have hent := S.ent _ _ hd hl
  obtain ⟨ax, cx, news, rfl, hnl, hn1, hnc', hnok⟩ := elemsOf_sound S hx hu hsx
  by_cases hk : xs = []
  · -- nothing is appended
    subst hk
    have hnews : news = [] := List.eq_nil_of_length_eq_zero (by simpa using hnl)
    subst hnews
    have hsrc : Src P i.size tx (.slice ax 0 cx) 0 [] X.w := by
      cases ax with
      | none => exact Src.ofNil X.w (elemOf_under hex) cx
      | some a => exact Src.ofSlice X.w (elemOf_under hex) a 0 cx [] (by simp) (by simp) (by simp)
    have hrun := run_append_nothing (P := P) X.w t tx ty e i (elemOf_under he) hii (X.σ id).hd n (X.σ id).cap hnc _ hsrc
    refine ⟨_, X, hrun, .refl S M, ?_, rfl, ?_⟩
    · simp only [List.append_nil]
      exact (set_same hl).symm
    · simp only [List.length_nil, Nat.add_zero]
      exact ⟨rfl, hd, _, hl, hle, hle2, fun _ => ⟨_, _, rfl, hnc, had, fun _ _ => ⟨rfl, rfl⟩⟩⟩
  · have hkpos : 0 < xs.length := List.length_pos_iff.2 hk
    obtain ⟨bx, ox, rfl, hbx, hnews⟩ := hnc'.resolve_left hk
    have hsrc : Src P i.size tx (.slice (some ⟨bx, ox, none⟩) xs.length cx) xs.length news X.w :=
      Src.ofSlice X.w (elemOf_under hex) ⟨bx, ox, none⟩ xs.length cx news hnl (fun j u hj => by rw [add_plain]; exact hnews j u hj) hn1
    have hszz : ∀ e ∈ l ++ xs, e.length = i.size := fun e he => (List.mem_append.1 he).elim (hsl e) (hsx e)
    by_cases hroom : n + xs.length ≤ (X.σ id).cap
    · -- there is room
      rcases hent.2 with ⟨_, _, h0⟩ | ⟨b, c, ty', fr, g1, g2, g3, g4, g5, g6, g7, g8, g9, g10⟩
      · omega
      have hsz : (X.σ id).sz = i.size := by
        cases l with
        | nil => simp at g6
        | cons y ys => rw [← hent.1 y (by simp), hsl y (by simp)]
      rw [hsz] at g5 g10
      have hfit : n * i.size + news.length ≤ c.size := by
        rw [g5, hnl, ← Nat.add_mul]
        exact Nat.mul_le_mul_right _ hroom
      obtain ⟨a1, a2, a3⟩ := setCells_heap b news (n * i.size) X.w c ty' fr g3 hfit
      have hrun := run_append_room_src (P := P) X.w t tx ty e i (elemOf_under he) hii b 0 n (X.σ id).cap _ xs.length news hsrc hroom
        (fun j hj => by
          have : n * i.size + j < c.size := by omega
          simp [World.cell?, g3, this]) (fun j hj => by
          have := g4 (n * i.size + j) (by omega)
          simpa using this)
      rw [Nat.zero_add] at hrun
      let Y : Cx := { X with H := X.H.set id (.clo (l ++ xs) false), w := X.w.setCells b (n * i.size) news }
      have hl2 : (l ++ xs).length = n + xs.length := by simp [hlen]
      have W : Wrote X Y id := ⟨rfl, rfl, fun _ => Iff.rfl, fun _ _ _ => rfl, rfl, fun j hj => set_get hj, Nat.le_of_eq a3.symm, fun k _ hk => a2 k (hk b g1),
        ⟨_, _, hl, set_self hl, by simp only [Ent.len, hl2]; omega, fun _ => rfl, fun l h => by cases h⟩, hd, setCells_stl _ _ _ _, fun k hk => by rw [g1] at hk; cases hk; exact g9 rfl⟩
      have SY : SR Y := W.sr S M (fun e' h => by
        have : Y.H[id]? = some (.clo (l ++ xs) false) := set_self hl
        rw [this] at h
        cases h
        refine ⟨fun e he => by rw [hszz e he, ← hsz], .inr ⟨b, _, ty', fr, g1, g2, a1, fun o ho => ?_, by rw [show (Y.σ id).sz = i.size from hsz]; simp only [List.size_toArray, wr_length, Array.length_toList]; exact g5, by rw [hl2]; exact ⟨by omega, hroom⟩, g7, (fun h => by cases h), g9, fun a j ha hj => ?_⟩⟩
        · have := g4 o (by simpa [wr_length] using ho)
          simp only [World.frozen?, g3] at this
          show World.frozen? (X.w.setCells b (n * i.size) news) _ = false
          simp only [World.frozen?, a1]
          exact this
        · rw [show (Y.σ id).sz = i.size from hsz] at hj ⊢
          rw [hl2] at ha
          simp only [List.getElem?_toArray]
          rw [wr_get _ _ _ _ (by simpa using hfit)]
          by_cases han : a < n
          · rw [if_neg (fun hk => by
              have : a * i.size + i.size ≤ n * i.size := by
                calc a * i.size + i.size = (a + 1) * i.size := by rw [Nat.add_mul, Nat.one_mul]
                  _ ≤ n * i.size := Nat.mul_le_mul_right _ (by omega)
              omega)]
            obtain ⟨v, hv, e1, x, q1, q2, q3⟩ := g10 a j (by omega) hj
            exact ⟨v, by simpa using hv, e1, x, by rw [List.getElem?_append_left (by omega)]; exact q1, q2, W.rc S q3⟩
          · obtain ⟨q, rfl⟩ : ∃ q, a = n + q := ⟨a - n, by omega⟩
            obtain ⟨v, hv, e1, x, q1, q2, q3⟩ := hnok q j (by omega) hj
            have hlt := (List.getElem?_eq_some_iff.1 hv).1
            rw [Nat.add_mul, if_pos (by omega)]
            refine ⟨v, by rw [show n * i.size + q * i.size + j - n * i.size = q * i.size + j by omega]; exact hv, e1, x, ?_, q2, W.rc S q3⟩
            rw [List.getElem?_append_right (by omega), hlen, Nat.add_sub_cancel_left]
            exact q1) (fun b' h => .inl h)
      have hd2 : (X.σ id).hd = some ⟨b, 0, none⟩ := g2
      refine ⟨_, Y, by rw [hd2]; exact hrun, W.nxt S M SY, rfl, rfl, rfl, hd, _, set_self hl, by omega, by simp only [Ent.len, hl2]; omega, fun _ => ⟨_, _, rfl, hroom, fun _ => ⟨b, g1, by simp⟩, fun _ _ => ⟨g2.symm, rfl⟩⟩⟩
    · -- a new row
      have hg : (X.σ id).cap < n + xs.length := by omega
      obtain ⟨olds, ho1, ho2, ho3⟩ : ∃ olds : List Value, olds.length = n * i.size ∧ (Builtin.firstCells i.size n (.slice (X.σ id).hd n (X.σ id).cap)).run P X.w.drew = .ok olds.toArray X.w.drew ∧
          ∀ a j, a < n → j < i.size → ∃ v, olds[a * i.size + j]? = some v ∧ okC X l a j v := by
        rcases hent.2 with ⟨h0, h1, h2⟩ | ⟨b, c, ty', fr, g1, g2, g3, g4, g5, g6, g7, g8, g9, g10⟩
        · have hn0 : n = 0 := by omega
          subst hn0
          refine ⟨[], by simp, ?_, fun a j ha => by omega⟩
          cases (X.σ id).hd with
          | none => exact run_firstCells_none X.w.drew _ _ _ _
          | some a => exact run_firstCells_some X.w.drew i.size 0 a 0 _ [] (by simp) (by simp)
        · have hsz : (X.σ id).sz = i.size := by
            cases l with
            | nil => simp at g6
            | cons y ys => rw [← hent.1 y (by simp), hsl y (by simp)]
          rw [hsz] at g5 g10
          have hle : n * i.size ≤ c.size := by
            rw [g5]
            exact Nat.mul_le_mul_right _ hnc
          refine ⟨c.toList.take (n * i.size), by simp; omega, ?_, fun a j ha hj => ?_⟩
          · rw [g2]
            refine run_firstCells_some X.w.drew i.size n ⟨b, 0, none⟩ n _ _ (by simp; omega) fun j v hj => ?_
            rw [List.getElem?_take] at hj
            split at hj
            case isFalse => cases hj
            rw [add_plain]
            simp only [World.cell?, World.drew, g3, Nat.zero_add]
            simpa using hj
          · obtain ⟨v, hv, ho⟩ := g10 a j (by omega) hj
            refine ⟨v, ?_, ho⟩
            have : a * i.size + j < n * i.size := by
              calc a * i.size + j < a * i.size + i.size := by omega
                _ = (a + 1) * i.size := by rw [Nat.add_mul, Nat.one_mul]
                _ ≤ n * i.size := Nat.mul_le_mul_right _ (by omega)
            rw [List.getElem?_take, if_pos this]
            simpa using hv
      have hfit : Builtin.nextslicecap (n + xs.length) (X.σ id).cap * i.bytes ≤ 281474976710656 :=
        growslice_fits hg (by rw [Nat.mul_comm] at hsm'; omega)
      have hrun := run_append_grow_src (P := P) X.w t tx ty e i z (elemOf_under he) hii hzz (X.σ id).hd n (X.σ id).cap olds ho2 _ xs.length news hsrc hg (by omega) hfit
      generalize hcap : grownCap X.w (n + xs.length) (X.σ id).cap e = ncap at hrun
      have hncap : n + xs.length ≤ ncap := by rw [← hcap]; exact grownCap_ge _ _ _ _
      let s' : Sl := ⟨some ⟨X.w.heap.size, 0, none⟩, some X.w.heap.size, ncap, i.size⟩
      let Y : Cx := { X with H := X.H.set id (.clo (l ++ xs) false), σ := fun j => if j = id then s' else X.σ j, w := X.w.drew.alloc (.cells ((olds ++ news).toArray ++ Builtin.zeroCells z.cells (ncap - (n + xs.length))) e) }
      have hσ : Y.σ id = s' := if_pos rfl
      have hl2 : (l ++ xs).length = n + xs.length := by simp [hlen]
      have hheap : Y.w.heap = X.w.heap.push (.cells ((olds ++ news).toArray ++ Builtin.zeroCells z.cells (ncap - (n + xs.length))) e) := rfl
      have W : Wrote X Y id := ⟨rfl, rfl, fun _ => Iff.rfl, fun j hj _ => if_neg hj, rfl, fun j hj => set_get hj, by rw [hheap]; simp, fun k hk _ => by rw [hheap, Array.getElem?_push, if_neg (by omega)],
        ⟨_, _, hl, set_self hl, by simp only [Ent.len, hl2]; omega, fun he => by simp only [Ent.len, hl2] at he; omega, fun l h => by cases h⟩, hd, ⟨⟨rfl, rfl⟩, rfl, Nat.le_succ _⟩, fun k hk => by
          rcases hent.2 with ⟨_, h1, _⟩ | ⟨b, c, ty', fr, g1, g2, g3, g4, g5, g6, g7, g8, g9, g10⟩
          · rw [h1] at hk; cases hk
          · rw [g1] at hk; cases hk; exact g9 rfl⟩
      have SY : SR Y := W.sr S M (fun e' h => by
        have : Y.H[id]? = some (.clo (l ++ xs) false) := set_self hl
        rw [this] at h
        cases h
        rw [hσ]
        refine ⟨hszz, .inr ⟨X.w.heap.size, _, e, (0, 0), rfl, rfl, by rw [hheap]; simp; rfl, fun o _ => by simp [World.frozen?, hheap], ?_, by rw [hl2]; exact ⟨by omega, hncap⟩, S.size, (fun h => by cases h), fun _ hb => absurd (S.imm _ hb) (by omega), fun a j ha hj => ?_⟩⟩
        · simp only [Array.size_append, List.size_toArray, List.length_append, ho1, hnl, size_zeroCells, hzs]
          show n * i.size + xs.length * i.size + (ncap - (n + xs.length)) * i.size = ncap * i.size
          rw [← Nat.add_mul, ← Nat.add_mul]
          congr 1
          omega
        · rw [hl2] at ha
          have hj' : j < i.size := hj
          have hlt : a * i.size + j < (olds ++ news).length := by
            rw [List.length_append, ho1, hnl, ← Nat.add_mul]
            calc a * i.size + j < a * i.size + i.size := by omega
              _ = (a + 1) * i.size := by rw [Nat.add_mul, Nat.one_mul]
              _ ≤ (n + xs.length) * i.size := Nat.mul_le_mul_right _ (by omega)
          show ∃ v, (_ : Array Value)[a * i.size + j]? = some v ∧ _
          rw [Array.getElem?_append_left (by simpa using hlt), List.getElem?_toArray]
          by_cases han : a < n
          · obtain ⟨v, hv, e1, x, q1, q2, q3⟩ := ho3 a j han hj'
            exact ⟨v, by rw [List.getElem?_append_left (List.getElem?_eq_some_iff.1 hv).1]; exact hv, e1, x, by rw [List.getElem?_append_left (by omega)]; exact q1, q2, W.rc S q3⟩
          · obtain ⟨q, rfl⟩ : ∃ q, a = n + q := ⟨a - n, by omega⟩
            obtain ⟨v, hv, e1, x, q1, q2, q3⟩ := hnok q j (by omega) hj'
            refine ⟨v, ?_, e1, x, ?_, q2, W.rc S q3⟩
            · rw [List.getElem?_append_right (by rw [ho1, Nat.add_mul]; omega), ho1]
              rw [show (n + q) * i.size + j - n * i.size = q * i.size + j by rw [Nat.add_mul]; omega]
              exact hv
            · rw [List.getElem?_append_right (by omega), hlen, Nat.add_sub_cancel_left]
              exact q1) (fun b' h => by
          rw [hσ] at h
          cases h
          exact .inr (Nat.le_refl _))
      refine ⟨_, Y, hrun, W.nxt S M SY, rfl, rfl, rfl, hd, _, set_self hl, by omega, by simp only [Ent.len, hl2]; omega, fun _ => ⟨_, _, rfl, hncap, fun _ => ⟨X.w.heap.size, by rw [hσ], by simp⟩, fun _ _ => by rw [hσ]; exact ⟨rfl, rfl⟩⟩⟩

theorem vappend_len {H : Hp} {t tx : TypeId} {s x : AV} {r : AV × Hp} (hv : vappend P H t tx s x = some r) : r.2.length = H.length := by
  unfold vappend at hv
  split at hv
  case h_2 => cases hv
  split at hv
  case h_2 => cases hv
  split at hv
  case isFalse => cases hv
  cases hv
  simp

/-- The elements of an open row. -/
def elemsO (H : Hp) (a : AV) : Option (List (List Cell)) :=
  match a with
  | .one (.sl id o n tot) => match H[id]? with
    | some (.opn l _) => if l.length = tot then some ((l.drop o).take n) else none
    | _ => none
  | _ => none
def opnOf (H : Hp) (id : Nat) : Option (List (List Cell)) := match H[id]? with
  | some (.opn l false) => some l
  | some (.clo l false) => some (l.map fun (e : List CV) => e.map .c)
  | _ => none
/-- Open elements are appended. -/
def vappendO (P : Program) (H : Hp) (t tx : TypeId) (s x : AV) : Option (AV × Hp) :=
  match s, elemsO H x, elemOfSlice P t, elemOfSlice P tx with
  | .one (.sl id o n tot), some xs, some e, some _ => match opnOf H id, pv P (typeInfo e), pv P (zeroValue e) with
    | some l, some i, some z =>
      if o = 0 ∧ n = tot ∧ l.length = tot ∧ (∀ e ∈ l, e.length = i.size) ∧ (∀ e ∈ xs, e.length = i.size) ∧ z.cells.size = i.size ∧ small i.bytes (tot + xs.length) = true ∧ tot + xs.length ≤ 4611686018427387904 ∧ 0 < xs.length then
        some (.one (.sl id 0 (tot + xs.length) (tot + xs.length)), H.set id (.opn (l ++ xs) false)) else none
    | _, _, _ => none
  | _, _, _, _ => none
def vappendN (P : Program) (nest : Bool) (H : Hp) (t tx : TypeId) (s x : AV) : Option (AV × Hp) :=
  if nest = true ∧ (elemsO H x).isSome = true then vappendO P H t tx s x else vappend P H t tx s x
@[simp] theorem vappendN_no {H : Hp} {t tx : TypeId} {s x : AV} : vappendN P false H t tx s x = vappend P H t tx s x := by
  unfold vappendN
  rw [if_neg (by simp)]
theorem opnOf_ent (S : SR X) {id : Nat} {l : List (List Cell)} (hd : X.D id) (h : opnOf X.H id = some l) : ∃ e, X.H[id]? = some e ∧ e.len = l.length ∧ (∀ k, e ≠ .mp k) ∧ REnt X (X.σ id) (.opn l false) := by
  unfold opnOf at h
  split at h
  · rename_i l' hl
    cases h
    exact ⟨_, hl, rfl, fun k h => (by cases h), S.ent _ _ hd hl⟩
  · rename_i l' hl
    cases h
    obtain ⟨h1, h2⟩ := S.ent _ _ hd hl
    refine ⟨_, hl, by simp [Ent.len], fun k h => (by cases h), fun e he => ?_, ?_⟩
    · obtain ⟨e', h3, rfl⟩ := List.mem_map.1 he
      rw [List.length_map]
      exact h1 e' h3
    · rw [List.length_map]
      rcases h2 with h | ⟨b', c, ty, fr, g1, g2, g3, g4, g5, g6, g7, g8, g9, g10⟩
      · exact .inl h
      · refine .inr ⟨b', c, ty, fr, g1, g2, g3, g4, g5, g6, g7, g8, g9, fun i j hi hj => ?_⟩
        obtain ⟨v, hv, e1, x, q1, q2, q3⟩ := g10 i j hi hj
        refine ⟨v, hv, e1.map .c, .c x, by rw [List.getElem?_map, q1]; rfl, by rw [List.getElem?_map, q2]; rfl, q3⟩
  · cases h
theorem elemsO_sound (S : SR X) {a : AV} {xs : List (List Cell)} (h : elemsO X.H a = some xs) {v : Value} (hv : RA X a v) {sz : Nat} (hsz : ∀ e ∈ xs, e.length = sz) :
    ∃ (ad : Option Addr) (cap : Nat) (news : List Value), v = .slice ad xs.length cap ∧ news.length = xs.length * sz ∧ (∀ u ∈ news, u.oneCell' = true) ∧
      (xs = [] ∨ ∃ b o, ad = some ⟨b, o, none⟩ ∧ b < X.w.heap.size ∧ ∀ (j : Nat) u, news[j]? = some u → X.w.cell? ⟨b, o + j, none⟩ = some u) ∧
      ∀ i j, i < xs.length → j < sz → ∃ u, news[i * sz + j]? = some u ∧ okO X xs i j u := by
  -- a row of values out of a grid
  have mk : ∀ (F : Nat → Nat → Value) (b o sz0 : Nat), (xs ≠ [] → sz0 = sz) → b < X.w.heap.size → (∀ i j, i < xs.length → j < sz0 → X.w.cell? ⟨b, o + (i * sz0 + j), none⟩ = some (F i j) ∧ okO X xs i j (F i j)) →
      ∃ news : List Value, news.length = xs.length * sz ∧ (∀ u ∈ news, u.oneCell' = true) ∧ (∀ (j : Nat) u, news[j]? = some u → X.w.cell? ⟨b, o + j, none⟩ = some u) ∧
        ∀ i j, i < xs.length → j < sz → ∃ u, news[i * sz + j]? = some u ∧ okO X xs i j u := by
    intro F b o sz0 hz hb hF
    have get : ∀ k, k < xs.length * sz → ∃ i j, i < xs.length ∧ j < sz ∧ k = i * sz + j ∧ k / sz = i ∧ k % sz = j := by
      intro k hk
      have hpos : 0 < sz := Nat.pos_of_ne_zero fun e => by rw [e, Nat.mul_zero] at hk; omega
      refine ⟨k / sz, k % sz, ?_, Nat.mod_lt _ hpos, ?_, rfl, rfl⟩
      · rw [Nat.div_lt_iff_lt_mul hpos]; exact hk
      · rw [Nat.mul_comm]; exact (Nat.div_add_mod k sz).symm
    have hz' : ∀ {i}, i < xs.length → sz0 = sz := fun hi => hz (fun e => by rw [e] at hi; cases hi)
    refine ⟨(List.range (xs.length * sz)).map fun k => F (k / sz) (k % sz), by simp, fun u hu => ?_, fun j u hj => ?_, fun i j hi hj => ?_⟩
    · obtain ⟨k, hk, rfl⟩ := List.mem_map.1 hu
      obtain ⟨i, j, hi, hj, _, e1, e2⟩ := get k (List.mem_range.1 hk)
      rw [e1, e2]
      obtain ⟨_, e, x, _, _, hr⟩ := hF i j hi (by rw [hz' hi]; exact hj)
      exact hr.one
    · have hlt : j < xs.length * sz := by
        have := (List.getElem?_eq_some_iff.1 hj).1
        simpa using this
      rw [List.getElem?_map, List.getElem?_range hlt] at hj
      cases hj
      obtain ⟨i, k, hi, hk, e0, e1, e2⟩ := get j hlt
      have := (hF i k hi (by rw [hz' hi]; exact hk)).1
      rw [hz' hi] at this
      show _ = some (F (j / sz) (j % sz))
      rw [e1, e2, ← this, ← e0]
    · have hlt : i * sz + j < xs.length * sz := by
        calc i * sz + j < i * sz + sz := by omega
          _ = (i + 1) * sz := by rw [Nat.add_mul, Nat.one_mul]
          _ ≤ xs.length * sz := Nat.mul_le_mul_right _ (by omega)
      obtain ⟨a, k, ha, hk, e0, e1, e2⟩ := get _ hlt
      obtain ⟨rfl, rfl⟩ := at_of hj hk e0
      refine ⟨F i j, ?_, (hF i j hi (by rw [hz' hi]; exact hj)).2⟩
      rw [List.getElem?_map, List.getElem?_range hlt]
      simp only [Option.map_some, e1, e2]
  unfold elemsO at h
  split at h
  · rename_i id o n tot
    obtain ⟨_, hd, e, he, hle, hle2, hp⟩ := hv
    split at h
    case h_2 => cases h
    rename_i l f hl
    rw [he] at hl
    cases hl
    split at h
    case isFalse => cases h
    rename_i hlen
    cases h
    obtain ⟨ad, cap, rfl, hnc, had, _⟩ := hp hlen
    have hn : ((l.drop o).take n).length = n := by simp; omega
    by_cases hn0 : n = 0
    · subst hn0
      exact ⟨ad, cap, [], by simp, by simp, by simp, .inl (by simp), fun i j hi => by simp at hi⟩
    · obtain ⟨b, hb, rfl⟩ := had hn0
      have hent := S.ent _ _ hd he
      obtain ⟨F, hF⟩ := row_all hent.2 hb
      have hlt := (hent.2.lt hb).1
      obtain ⟨news, g1, g2, g3, g4⟩ := mk (fun i j => F (o + i) j) b (o * (X.σ id).sz) (X.σ id).sz (fun hne => by
        obtain ⟨y, hy⟩ := List.exists_mem_of_ne_nil _ hne
        rw [← hsz y hy, hent.1 y (List.mem_of_mem_drop (List.mem_of_mem_take hy))]) hlt (fun i j hi hj => by
          rw [hn] at hi
          obtain ⟨q1, e, x, q2, q3, q4⟩ := hF (o + i) j (by omega) hj
          refine ⟨by rw [← q1, Nat.add_mul, Nat.add_assoc], e, x, ?_, q3, q4⟩
          rw [List.getElem?_take, if_pos hi, List.getElem?_drop]
          exact q2)
      exact ⟨_, cap, news, by rw [hn], g1, g2, .inr ⟨b, _, rfl, hlt, g3⟩, g4⟩
  · cases h

theorem vappendO_does (S : SR X) (M : Dom X) {t tx ty : TypeId} {s x : AV} {r : AV × Hp} (h : vappendO P X.H t tx s x = some r) {v u : Value} (hv : RA X s v) (hu : RA X x u) :
    ∃ y Y, (Builtin.append_ #[t, tx] ty #[v, u]).run P X.w = .ok y Y.w ∧ Nxt X Y ∧ Y.H = r.2 ∧ Y.D = X.D ∧ RA Y r.1 y := by
  unfold vappendO at h
  split at h
  case h_2 => cases h
  rename_i id o n tot xs e ex hx he hex
  split at h
  case h_2 => cases h
  rename_i l i z hl hi hz
  split at h
  case isFalse => cases h
  rename_i hc
  obtain ⟨rfl, rfl, hlen, hsl, hsx, hzs, hsm, h62, hkpos⟩ := hc
  cases h
  have hii := typeInfo_run hi
  have hzz := zero_run hii hz
  have hsm' : i.bytes * (n + xs.length) ≤ 140737488355328 := by
    unfold small at hsm
    simpa using hsm
  obtain ⟨_, hd, e0, he0, hle, hle2, hp⟩ := hv
  obtain ⟨e1, hl1, hl0, hmp, hent⟩ := opnOf_ent S hd hl
  rw [hl1] at he0
  cases he0
  obtain ⟨ad, cap, rfl, hnc, had, hfull⟩ := hp (hl0.trans hlen)
  obtain ⟨rfl, rfl⟩ := hfull rfl rfl
  obtain ⟨ax, cx, news, rfl, hnl, hn1, hnc', hnok⟩ := elemsO_sound S hx hu hsx
  · have hk : xs ≠ [] := List.length_pos_iff.1 hkpos
    obtain ⟨bx, ox, rfl, hbx, hnews⟩ := hnc'.resolve_left hk
    have hsrc : Src P i.size tx (.slice (some ⟨bx, ox, none⟩) xs.length cx) xs.length news X.w :=
      Src.ofSlice X.w (elemOf_under hex) ⟨bx, ox, none⟩ xs.length cx news hnl (fun j u hj => by rw [add_plain]; exact hnews j u hj) hn1
    have hszz : ∀ e ∈ l ++ xs, e.length = i.size := fun e he => (List.mem_append.1 he).elim (hsl e) (hsx e)
    by_cases hroom : n + xs.length ≤ (X.σ id).cap
    · -- there is room
      rcases hent.2 with ⟨_, _, h0⟩ | ⟨b, c, ty', fr, g1, g2, g3, g4, g5, g6, g7, g8, g9, g10⟩
      · omega
      have hsz : (X.σ id).sz = i.size := by
        cases l with
        | nil => simp at g6
        | cons y ys => rw [← hent.1 y (by simp), hsl y (by simp)]
      rw [hsz] at g5 g10
      have hfit : n * i.size + news.length ≤ c.size := by
        rw [g5, hnl, ← Nat.add_mul]
        exact Nat.mul_le_mul_right _ hroom
      obtain ⟨a1, a2, a3⟩ := setCells_heap b news (n * i.size) X.w c ty' fr g3 hfit
      have hrun := run_append_room_src (P := P) X.w t tx ty e i (elemOf_under he) hii b 0 n (X.σ id).cap _ xs.length news hsrc hroom
        (fun j hj => by
          have : n * i.size + j < c.size := by omega
          simp [World.cell?, g3, this]) (fun j hj => by
          have := g4 (n * i.size + j) (by omega)
          simpa using this)
      rw [Nat.zero_add] at hrun
      let Y : Cx := { X with H := X.H.set id (.opn (l ++ xs) false), w := X.w.setCells b (n * i.size) news }
      have hl2 : (l ++ xs).length = n + xs.length := by simp [hlen]
      have W : Wrote X Y id := ⟨rfl, rfl, fun _ => Iff.rfl, fun _ _ _ => rfl, rfl, fun j hj => set_get hj, Nat.le_of_eq a3.symm, fun k _ hk => a2 k (hk b g1),
        ⟨_, _, hl1, set_self hl1, by show _ ≤ (l ++ xs).length; omega, fun _ => rfl, fun l h => absurd h (hmp l)⟩, hd, setCells_stl _ _ _ _, fun k hk => by rw [g1] at hk; cases hk; exact g9 rfl⟩
      have SY : SR Y := W.sr S M (fun e' h => by
        have : Y.H[id]? = some (.opn (l ++ xs) false) := set_self hl1
        rw [this] at h
        cases h
        refine ⟨fun e he => by rw [hszz e he, ← hsz], .inr ⟨b, _, ty', fr, g1, g2, a1, fun o ho => ?_, by rw [show (Y.σ id).sz = i.size from hsz]; simp only [List.size_toArray, wr_length, Array.length_toList]; exact g5, by rw [hl2]; exact ⟨by omega, hroom⟩, g7, (fun h => by cases h), g9, fun a j ha hj => ?_⟩⟩
        · have := g4 o (by simpa [wr_length] using ho)
          simp only [World.frozen?, g3] at this
          show World.frozen? (X.w.setCells b (n * i.size) news) _ = false
          simp only [World.frozen?, a1]
          exact this
        · rw [show (Y.σ id).sz = i.size from hsz] at hj ⊢
          rw [hl2] at ha
          simp only [List.getElem?_toArray]
          rw [wr_get _ _ _ _ (by simpa using hfit)]
          by_cases han : a < n
          · rw [if_neg (fun hk => by
              have : a * i.size + i.size ≤ n * i.size := by
                calc a * i.size + i.size = (a + 1) * i.size := by rw [Nat.add_mul, Nat.one_mul]
                  _ ≤ n * i.size := Nat.mul_le_mul_right _ (by omega)
              omega)]
            obtain ⟨v, hv, e1, x, q1, q2, q3⟩ := g10 a j (by omega) hj
            exact ⟨v, by simpa using hv, e1, x, by rw [List.getElem?_append_left (by omega)]; exact q1, q2, W.rcell S q3⟩
          · obtain ⟨q, rfl⟩ : ∃ q, a = n + q := ⟨a - n, by omega⟩
            obtain ⟨v, hv, e1, x, q1, q2, q3⟩ := hnok q j (by omega) hj
            have hlt := (List.getElem?_eq_some_iff.1 hv).1
            rw [Nat.add_mul, if_pos (by omega)]
            refine ⟨v, by rw [show n * i.size + q * i.size + j - n * i.size = q * i.size + j by omega]; exact hv, e1, x, ?_, q2, W.rcell S q3⟩
            rw [List.getElem?_append_right (by omega), hlen, Nat.add_sub_cancel_left]
            exact q1) (fun b' h => .inl h)
      have hd2 : (X.σ id).hd = some ⟨b, 0, none⟩ := g2
      refine ⟨_, Y, by rw [hd2]; exact hrun, W.nxt S M SY, rfl, rfl, rfl, hd, _, set_self hl1, by omega, by simp only [Ent.len, hl2]; omega, fun _ => ⟨_, _, rfl, hroom, fun _ => ⟨b, g1, by simp⟩, fun _ _ => ⟨g2.symm, rfl⟩⟩⟩
    · -- a new row
      have hg : (X.σ id).cap < n + xs.length := by omega
      obtain ⟨olds, ho1, ho2, ho3⟩ : ∃ olds : List Value, olds.length = n * i.size ∧ (Builtin.firstCells i.size n (.slice (X.σ id).hd n (X.σ id).cap)).run P X.w.drew = .ok olds.toArray X.w.drew ∧
          ∀ a j, a < n → j < i.size → ∃ v, olds[a * i.size + j]? = some v ∧ okO X l a j v := by
        rcases hent.2 with ⟨h0, h1, h2⟩ | ⟨b, c, ty', fr, g1, g2, g3, g4, g5, g6, g7, g8, g9, g10⟩
        · have hn0 : n = 0 := by omega
          subst hn0
          refine ⟨[], by simp, ?_, fun a j ha => by omega⟩
          cases (X.σ id).hd with
          | none => exact run_firstCells_none X.w.drew _ _ _ _
          | some a => exact run_firstCells_some X.w.drew i.size 0 a 0 _ [] (by simp) (by simp)
        · have hsz : (X.σ id).sz = i.size := by
            cases l with
            | nil => simp at g6
            | cons y ys => rw [← hent.1 y (by simp), hsl y (by simp)]
          rw [hsz] at g5 g10
          have hle : n * i.size ≤ c.size := by
            rw [g5]
            exact Nat.mul_le_mul_right _ hnc
          refine ⟨c.toList.take (n * i.size), by simp; omega, ?_, fun a j ha hj => ?_⟩
          · rw [g2]
            refine run_firstCells_some X.w.drew i.size n ⟨b, 0, none⟩ n _ _ (by simp; omega) fun j v hj => ?_
            rw [List.getElem?_take] at hj
            split at hj
            case isFalse => cases hj
            rw [add_plain]
            simp only [World.cell?, World.drew, g3, Nat.zero_add]
            simpa using hj
          · obtain ⟨v, hv, ho⟩ := g10 a j (by omega) hj
            refine ⟨v, ?_, ho⟩
            have : a * i.size + j < n * i.size := by
              calc a * i.size + j < a * i.size + i.size := by omega
                _ = (a + 1) * i.size := by rw [Nat.add_mul, Nat.one_mul]
                _ ≤ n * i.size := Nat.mul_le_mul_right _ (by omega)
            rw [List.getElem?_take, if_pos this]
            simpa using hv
      have hfit : Builtin.nextslicecap (n + xs.length) (X.σ id).cap * i.bytes ≤ 281474976710656 :=
        growslice_fits hg (by rw [Nat.mul_comm] at hsm'; omega)
      have hrun := run_append_grow_src (P := P) X.w t tx ty e i z (elemOf_under he) hii hzz (X.σ id).hd n (X.σ id).cap olds ho2 _ xs.length news hsrc hg (by omega) hfit
      generalize hcap : grownCap X.w (n + xs.length) (X.σ id).cap e = ncap at hrun
      have hncap : n + xs.length ≤ ncap := by rw [← hcap]; exact grownCap_ge _ _ _ _
      let s' : Sl := ⟨some ⟨X.w.heap.size, 0, none⟩, some X.w.heap.size, ncap, i.size⟩
      let Y : Cx := { X with H := X.H.set id (.opn (l ++ xs) false), σ := fun j => if j = id then s' else X.σ j, w := X.w.drew.alloc (.cells ((olds ++ news).toArray ++ Builtin.zeroCells z.cells (ncap - (n + xs.length))) e) }
      have hσ : Y.σ id = s' := if_pos rfl
      have hl2 : (l ++ xs).length = n + xs.length := by simp [hlen]
      have hheap : Y.w.heap = X.w.heap.push (.cells ((olds ++ news).toArray ++ Builtin.zeroCells z.cells (ncap - (n + xs.length))) e) := rfl
      have W : Wrote X Y id := ⟨rfl, rfl, fun _ => Iff.rfl, fun j hj _ => if_neg hj, rfl, fun j hj => set_get hj, by rw [hheap]; simp, fun k hk _ => by rw [hheap, Array.getElem?_push, if_neg (by omega)],
        ⟨_, _, hl1, set_self hl1, by show _ ≤ (l ++ xs).length; omega, fun he => by have he : (l ++ xs).length = _ := he; omega, fun l h => absurd h (hmp l)⟩, hd, ⟨⟨rfl, rfl⟩, rfl, Nat.le_succ _⟩, fun k hk => by
          rcases hent.2 with ⟨_, h1, _⟩ | ⟨b, c, ty', fr, g1, g2, g3, g4, g5, g6, g7, g8, g9, g10⟩
          · rw [h1] at hk; cases hk
          · rw [g1] at hk; cases hk; exact g9 rfl⟩
      have SY : SR Y := W.sr S M (fun e' h => by
        have : Y.H[id]? = some (.opn (l ++ xs) false) := set_self hl1
        rw [this] at h
        cases h
        rw [hσ]
        refine ⟨hszz, .inr ⟨X.w.heap.size, _, e, (0, 0), rfl, rfl, by rw [hheap]; simp; rfl, fun o _ => by simp [World.frozen?, hheap], ?_, by rw [hl2]; exact ⟨by omega, hncap⟩, S.size, (fun h => by cases h), fun _ hb => absurd (S.imm _ hb) (by omega), fun a j ha hj => ?_⟩⟩
        · simp only [Array.size_append, List.size_toArray, List.length_append, ho1, hnl, size_zeroCells, hzs]
          show n * i.size + xs.length * i.size + (ncap - (n + xs.length)) * i.size = ncap * i.size
          rw [← Nat.add_mul, ← Nat.add_mul]
          congr 1
          omega
        · rw [hl2] at ha
          have hj' : j < i.size := hj
          have hlt : a * i.size + j < (olds ++ news).length := by
            rw [List.length_append, ho1, hnl, ← Nat.add_mul]
            calc a * i.size + j < a * i.size + i.size := by omega
              _ = (a + 1) * i.size := by rw [Nat.add_mul, Nat.one_mul]
              _ ≤ (n + xs.length) * i.size := Nat.mul_le_mul_right _ (by omega)
          show ∃ v, (_ : Array Value)[a * i.size + j]? = some v ∧ _
          rw [Array.getElem?_append_left (by simpa using hlt), List.getElem?_toArray]
          by_cases han : a < n
          · obtain ⟨v, hv, e1, x, q1, q2, q3⟩ := ho3 a j han hj'
            exact ⟨v, by rw [List.getElem?_append_left (List.getElem?_eq_some_iff.1 hv).1]; exact hv, e1, x, by rw [List.getElem?_append_left (by omega)]; exact q1, q2, W.rcell S q3⟩
          · obtain ⟨q, rfl⟩ : ∃ q, a = n + q := ⟨a - n, by omega⟩
            obtain ⟨v, hv, e1, x, q1, q2, q3⟩ := hnok q j (by omega) hj'
            refine ⟨v, ?_, e1, x, ?_, q2, W.rcell S q3⟩
            · rw [List.getElem?_append_right (by rw [ho1, Nat.add_mul]; omega), ho1]
              rw [show (n + q) * i.size + j - n * i.size = q * i.size + j by rw [Nat.add_mul]; omega]
              exact hv
            · rw [List.getElem?_append_right (by omega), hlen, Nat.add_sub_cancel_left]
              exact q1) (fun b' h => by
          rw [hσ] at h
          cases h
          exact .inr (Nat.le_refl _))
      refine ⟨_, Y, hrun, W.nxt S M SY, rfl, rfl, rfl, hd, _, set_self hl1, by omega, by simp only [Ent.len, hl2]; omega, fun _ => ⟨_, _, rfl, hncap, fun _ => ⟨X.w.heap.size, by rw [hσ], by simp⟩, fun _ _ => by rw [hσ]; exact ⟨rfl, rfl⟩⟩⟩

theorem vappendN_does (S : SR X) (M : Dom X) {nest : Bool} {t tx ty : TypeId} {s x : AV} {r : AV × Hp} (h : vappendN P nest X.H t tx s x = some r) {v u : Value} (hv : RA X s v) (hu : RA X x u) :
    ∃ y Y, (Builtin.append_ #[t, tx] ty #[v, u]).run P X.w = .ok y Y.w ∧ Nxt X Y ∧ Y.H = r.2 ∧ Y.D = X.D ∧ RA Y r.1 y := by
  unfold vappendN at h
  split at h
  · exact vappendO_does S M h hv hu
  · exact vappend_does S M h hv hu
theorem vappendN_len {nest : Bool} {H : Hp} {t tx : TypeId} {s x : AV} {r : AV × Hp} (hv : vappendN P nest H t tx s x = some r) : r.2.length = H.length := by
  unfold vappendN at hv
  split at hv
  case isFalse => exact vappend_len hv
  unfold vappendO at hv
  split at hv
  case h_2 => cases hv
  split at hv
  case h_2 => cases hv
  split at hv
  case isFalse => cases hv
  cases hv
  simp

end Go.Proofs.Vm
end

section
/- Maps whose keys are numbers or strings and whose values are one closed cell; strings as bytes. -/
namespace Go.Proofs.Vm
open Go

variable {P : Program} {X : Cx}

def vmakeMap (H : Hp) : Option (AV × Hp) := some (.one (.mp H.length), H ++ [.mp (0, [])])

/-- A key is put: where it stands, with its stamp; or behind all others, with a new one. -/
def putM (l : Nat × List (Value × List CV)) (k : Value) (x : CV) : Option Nat → Nat × List (Value × List CV)
  | some j => (l.1, l.2.modify j fun p => (k, x :: p.2.drop 1))
  | none => (l.1 + 1, l.2 ++ [(k, [x, .v (.int .i64 l.1)])])

def vmapUpdate (P : Program) (H : Hp) (t : TypeId) (a b c : AV) : Option (AV × Hp) :=
  match mapAt H a, b.sc, mapTy P t, c with
  | some (id, l), some k, some (kd, _), .one (.c x) => if kindOk kd k then match findM k (l.2.map (·.1)) with
      | some r => some (und, H.set id (.mp (putM l k x r)))
      | none => none
    else none
  | _, _, _, _ => none

def vdelete (P : Program) (H : Hp) (t : TypeId) (a b : AV) : Option (AV × Hp) :=
  match mapAt H a, b.sc, mapTy P t with
  | some (id, l), some k, some (kd, _) => if kindOk kd k then match findM k (l.2.map (·.1)) with
      | some (some j) => some (und, H.set id (.mp (l.1, l.2.eraseIdx j)))
      | some none => some (und, H.set id (.mp l))
      | none => none
    else none
  | _, _, _ => none

/-- A key's entry, that is there: its value and its stamp. -/
def vmapEntry (P : Program) (H : Hp) (t : TypeId) (a b : AV) : Option (AV × Hp) :=
  match mapAt H a, b.sc, mapTy P t with
  | some (id, l), some k, some (kd, _) => if kindOk kd k then match findM k (l.2.map (·.1)) with
      | some (some j) => match l.2[j]? with
        | some (_, [x, y]) => some (.tup [(false, [.c x]), (false, [.c y])], H.set id (.mp (l.1, l.2.modify j fun p => (k, p.2))))
        | _ => none
      | _ => none
    else none
  | _, _, _ => none

/-- An entry, by its stamp. -/
def stampIs (n : Int) (p : Value × List CV) : Bool := match p.2 with
  | [_, .v (.int .i64 m)] => m == n
  | _ => false
def ventryStore (H : Hp) (a b c : AV) : Option (AV × Hp) :=
  match mapAt H a, b, c with
  | some (id, l), .one (.c (.v (.int .i64 n))), .one (.c x) => match l.2.findIdx? (stampIs n) with
      | some j => some (und, H.set id (.mp (l.1, l.2.modify j fun p => (p.1, x :: p.2.drop 1))))
      | none => none
  | _, _, _ => none

/-- Bytes out of closed cells. -/
def bytesRow' : List (List CV) → Option (List Int)
  | [] => some []
  | [.v (.int .u8 n)] :: r => (bytesRow' r).map (n :: ·)
  | _ :: _ => none

def isU8 (P : Program) (t : TypeId) : Bool :=
  match elemOfSlice P t with
  | some e => match pv P (underlying e) with
    | some (.int .u8) => true
    | _ => false
  | none => false
def isStrT (P : Program) (t : TypeId) : Bool :=
  match pv P (underlying t) with
  | some .string => true
  | _ => false

def strOf (ns : List Int) : ByteArray := ns.foldl (fun r n => r.push (UInt8.ofNat n.toNat)) ByteArray.empty

def vconvW (P : Program) (H : Hp) (s d : TypeId) (a : AV) : Option (AV × Hp) :=
  if isStrT P s && isU8 P d then match a with
    | .one (.c (.v (.string x))) => if x.size = 0 then none else some (.one (.sl H.length 0 x.size x.size), H ++ [.clo (bytesOf x) false])
    | _ => none
  else if isU8 P s && isStrT P d then match elemsOf H a with
    | some l => match bytesRow' l with
      | some ns => some (.one (.c (.v (.string (strOf ns)))), H)
      | none => none
    | none => none
  else none

/-- What such an operation must do. -/
def WDoes (P : Program) (X : Cx) (r : AV × Hp) (s : Sem Value) : Prop :=
  X.H.length ≤ r.2.length ∧ ∃ v Y, s.run P X.w = .ok v Y.w ∧ Nxt X Y ∧ Y.H = r.2 ∧ (∀ id, Y.D id ↔ id < r.2.length) ∧ RA Y r.1 v

theorem keyEq_now {kd : TypeDesc} {k y : Value} (hk : kindOk kd k = true) {b : Bool} (h : keyEq k y = some b) : Instr.sameNow kd k y = some b := by
  unfold keyEq at h
  split at h
  · unfold kindOk at hk
    split at hk
    · rename_i h1 h2; cases h2
    · unfold Instr.sameNow
      exact h
    · cases hk
  · unfold kindOk at hk
    split at hk
    · unfold Instr.sameNow
      exact h
    · rename_i h1 h2; cases h2
    · cases hk
  · cases h

theorem findM_now {kd : TypeDesc} {k : Value} (hk : kindOk kd k = true) : ∀ {es : List MapEntry} {i : Nat} {r : Option Nat}, findM k (es.map (·.key)) = some r →
    Instr.findNow kd k es i = some (r.bind fun j => (es[j]?).map fun e => (i + j, e.val)) ∧ ∀ j, r = some j → j < es.length ∧ ∃ e, es[j]? = some e ∧ keyEq k e.key = some true
  | [], i, r, h => by
    cases h
    exact ⟨rfl, fun j h => by cases h⟩
  | e :: es, i, r, h => by
    simp only [List.map_cons, findM] at h
    split at h
    · rename_i hq
      cases h
      refine ⟨?_, fun j h => by cases h; exact ⟨by simp, e, rfl, hq⟩⟩
      simp only [Instr.findNow, keyEq_now hk hq]
      rfl
    · rename_i hq
      obtain ⟨r', hr', rfl⟩ := Option.map_eq_some_iff.1 h
      obtain ⟨h1, h2⟩ := findM_now hk (i := i + 1) hr'
      refine ⟨?_, fun j hj => ?_⟩
      · simp only [Instr.findNow, keyEq_now hk hq, h1]
        cases r' with
        | none => rfl
        | some j =>
          simp only [Option.bind_some, Option.map_some, List.getElem?_cons_succ]
          cases es[j]? with
          | none => rfl
          | some y => simp only [Option.map_some]; rw [show i + 1 + j = i + (j + 1) by omega]
      · obtain ⟨j', hj', rfl⟩ := Option.map_eq_some_iff.1 hj
        obtain ⟨h3, y, h4, h5⟩ := h2 j' hj'
        exact ⟨by simp; omega, y, h4, h5⟩
    · cases h

theorem mapTy_facts {t : TypeId} {kd : TypeDesc} {z : Value} (h : mapTy P t = some (kd, z)) : ∃ key elem, pv P (underlying t) = some (.map key elem) ∧ pv P (underlying key) = some kd ∧ pv P (zeroValue elem) = some z ∧ z.oneCell' = true := by
  unfold mapTy at h
  split at h
  · rename_i key elem h1
    split at h
    · rename_i kd' z' h2 h3
      split at h
      · rename_i hz
        cases h
        exact ⟨key, elem, h1, h2, h3, hz⟩
      · cases h
    · cases h
  · cases h

theorem mapAt_facts {H : Hp} {a : AV} {id : Nat} {l : Nat × List (Value × List CV)} (h : mapAt H a = some (id, l)) : a = .one (.mp id) ∧ H[id]? = some (.mp l) := by
  unfold mapAt at h
  split at h
  · split at h
    · rename_i he
      cases h
      exact ⟨rfl, he⟩
    · cases h
  · cases h

theorem kind_check {kd : TypeDesc} {key : TypeId} {k : Value} (hu : pv P (underlying key) = some kd) (hk : kindOk kd k = true) (b : Bool) (w : World) : (Instr.checkKey b 10000 key k).run P w = .ok () w := by
  unfold Instr.checkKey
  simp only [Sem.run_bind, pv_run hu, Result.andThen]
  unfold kindOk at hk
  split at hk <;> first | rfl | cases hk

theorem find_run {kd : TypeDesc} {key : TypeId} {k : Value} (hu : pv P (underlying key) = some kd) (hk : kindOk kd k = true) {es : List MapEntry} {r : Option Nat} (h : findM k (es.map (·.key)) = some r) (w : World) :
    (Instr.findKey key k es).run P w = .ok (r.bind fun j => (es[j]?).map fun e => (j, e.val)) w := by
  have := (findM_now hk (i := 0) h).1
  unfold Instr.findKey
  simp only [Sem.run_bind, pv_run hu, Result.andThen, this]
  simp [Sem.run_pure]

theorem mp_ent (S : SR X) {a : AV} {id : Nat} {l : Nat × List (Value × List CV)} (h : mapAt X.H a = some (id, l)) {v : Value} (hv : RA X a v) :
    ∃ b es ck, X.D id ∧ X.H[id]? = some (.mp l) ∧ v = .map (some b) ∧ (X.σ id).blk = some b ∧ X.w.heap[b]? = some (.map es ck) ∧ X.base ≤ b ∧ ¬ X.I b ∧ (l.2.length = es.size ∧ ck = l.1) ∧ l.2.map (·.1) = es.toList.map (·.key) ∧
      ∀ (j : Nat) p y, l.2[j]? = some p → es[j]? = some y → p.1 = y.key ∧ ∃ x, p.2 = [x, .v (.int .i64 y.born)] ∧ RC X.I X.w x y.val := by
  obtain ⟨rfl, hl⟩ := mapAt_facts h
  obtain ⟨hd, l', b, h1, h2, rfl⟩ := hv
  rw [hl] at h1
  cases h1
  obtain ⟨b', es, ck, k1, k2, k3, k4, k5, k6⟩ := S.ent _ _ hd hl
  rw [h2] at k1
  cases k1
  refine ⟨b, es, ck, hd, hl, rfl, h2, k2, k3, k4, k5, ?_, k6⟩
  apply List.ext_getElem?
  intro j
  have e1 : es.toList[j]? = es[j]? := by simp
  rw [List.getElem?_map, List.getElem?_map, e1]
  by_cases hj : j < l.2.length
  · have hj' : j < es.size := by have := k5.1; omega
    rw [List.getElem?_eq_getElem hj, Array.getElem?_eq_getElem hj']
    simp only [Option.map_some]
    rw [(k6 j _ _ (List.getElem?_eq_getElem hj) (Array.getElem?_eq_getElem hj')).1]
  · rw [List.getElem?_eq_none (by omega), Array.getElem?_eq_none (by have := k5.1; omega)]
    rfl

theorem okPair_ra {cok : Bool} {x : CV} {v : Value} {b : Bool} (h : RC X.I X.w x v) : RA X (okPair cok x b) (if cok then .tuple #[v, .bool b] else v) := by
  cases cok with
  | false => exact h
  | true =>
    refine ⟨[v, .bool b], rfl, rfl, fun j p y hp hy => ?_⟩
    match j with
    | 0 => cases hp; cases hy; exact ⟨_, rfl, h⟩
    | 1 => cases hp; cases hy; exact ⟨_, rfl, .v _ rfl⟩
    | j + 2 => simp at hp

theorem vlookup_does (S : SR X) (M : Dom X) {nid : Nat} {t : TypeId} {a b : AV} {cok : Bool} {r : AV × List Ent × List Nat} (h : vlookup P X.H t a b cok = some r) {u v : Value} (ha : RA X a u) (hb : RA X b v) :
    Does P X nid r (Instr.lookup t u v cok) := by
  unfold vlookup at h
  split at h
  case h_2 => cases h
  rename_i id l k kd z hm hk ht
  split at h
  case isFalse => cases h
  rename_i hko
  obtain ⟨key, elem, u1, u2, u3, u4⟩ := mapTy_facts ht
  obtain ⟨blk, es, ck, hd, hl, rfl, k1, k2, k3, k4, k5, k6, k7⟩ := mp_ent S hm ha
  have hv : v = k := AV.sc_sound hk hb
  subst hv
  rw [k6] at h
  split at h
  · rename_i j hf
    obtain ⟨hfn, hj⟩ := findM_now hko (i := 0) hf
    obtain ⟨hj1, e, hj2, _⟩ := hj j rfl
    split at h
    case h_2 => cases h
    rename_i q x z1 hlj
    cases h
    have hj3 : es[j]? = some e := by simpa using hj2
    obtain ⟨_, x', hx1, hx2⟩ := k7 j _ e hlj hj3
    cases hx1
    refine Does.quiet S M (v := if cok then .tuple #[e.val, .bool true] else e.val) ?_ (okPair_ra hx2)
    unfold Instr.lookup
    simp only [Sem.run_bind, pv_run u1, Result.andThen, getObj, Sem.run, k2, kind_check u2 hko, find_run u2 hko hf, Option.bind_some, hj2, Option.map_some, Sem.run_pure]
  · rename_i hf
    cases h
    refine Does.quiet S M (v := if cok then .tuple #[z, .bool false] else z) ?_ (okPair_ra (.v z u4))
    unfold Instr.lookup
    simp only [Sem.run_bind, pv_run u1, Result.andThen, getObj, Sem.run, k2, kind_check u2 hko, find_run u2 hko hf, Option.bind_none, pv_run u3, Sem.run_pure]
  · cases h

def setOb (w : World) (b : Nat) (o : Obj) : World := { w with heap := w.heap.set! b o }
theorem set_get' {H : Hp} {id i : Nat} {e : Ent} (h : i ≠ id) : (H.set id e)[i]? = H[i]? := List.getElem?_set_ne (fun e => h e.symm)
theorem set_self' {H : Hp} {id : Nat} {e e0 : Ent} (h : H[id]? = some e0) : (H.set id e)[id]? = some e := List.getElem?_set_self (List.getElem?_eq_some_iff.1 h).1

/-- A map is written. -/
theorem wrote_map (S : SR X) (M : Dom X) (hD : ∀ id, X.D id ↔ id < X.H.length) {id b : Nat} {l l' : Nat × List (Value × List CV)} {es es' : Array MapEntry} {ck : Nat} (hd : X.D id) (hl : X.H[id]? = some (.mp l)) (hb : (X.σ id).blk = some b) (k2 : X.w.heap[b]? = some (.map es ck)) (k3 : X.base ≤ b) (k4 : ¬ X.I b)
    (hlen : l'.2.length = es'.size) (hrel : ∀ (j : Nat) p y, l'.2[j]? = some p → es'[j]? = some y → p.1 = y.key ∧ ∃ x, p.2 = [x, .v (.int .i64 y.born)] ∧ RC X.I X.w x y.val) {w' : World} (hw : w'.heap = X.w.heap.setIfInBounds b (.map es' l'.1)) (hk : Stl X.w w') :
    ∃ Y, Y.w = w' ∧ Nxt X Y ∧ Y.H = X.H.set id (.mp l') ∧ (∀ i, Y.D i ↔ i < (X.H.set id (.mp l')).length) := by
  have hbl : b < X.w.heap.size := (Array.getElem?_eq_some_iff.1 k2).1
  have hoth : ∀ k, k ≠ b → w'.heap[k]? = X.w.heap[k]? := fun k hkb => by rw [hw, Array.getElem?_setIfInBounds, if_neg (fun e => hkb e.symm)]
  have hself : w'.heap[b]? = some (.map es' l'.1) := by rw [hw, Array.getElem?_setIfInBounds, if_pos rfl, if_pos hbl]
  let Y : Cx := { X with H := X.H.set id (.mp l'), w := w' }
  have W : Wrote X Y id := ⟨rfl, rfl, fun _ => Iff.rfl, fun _ _ _ => rfl, rfl, fun i hi => set_get' hi, by show X.w.heap.size ≤ w'.heap.size; rw [hw]; simp, fun k _ hkb => hoth k (hkb b hb), ⟨_, _, hl, set_self' hl, Nat.le_refl _, fun _ => rfl, fun _ _ => ⟨_, rfl⟩⟩, hd, hk, fun k hk => by rw [hb] at hk; cases hk; exact k4⟩
  have SY : SR Y := W.sr S M (fun e h => by
    have : Y.H[id]? = some (.mp l') := set_self' hl
    rw [this] at h
    cases h
    refine ⟨b, es', l'.1, hb, hself, k3, k4, ⟨hlen, rfl⟩, fun j p y hp hy => ?_⟩
    obtain ⟨h1, x, h2, h3⟩ := hrel j p y hp hy
    exact ⟨h1, x, h2, W.rc S h3⟩) (fun b' h => .inl h)
  exact ⟨Y, rfl, W.nxt S M SY, rfl, fun i => by rw [show Y.D = X.D from rfl, hD]; simp⟩

theorem keyEq_bits {k y : Value} {n : Nat} (h : keyEq k y = some true) : Instr.sameBits n y k = true := by
  unfold keyEq at h
  split at h
  · split at h
    · rename_i k1 a k2 b hk
      subst hk
      simp only [Option.some.injEq, beq_iff_eq] at h
      subst h
      unfold Instr.sameBits
      cases n <;> simp
    · cases h
  · rename_i a b
    have h' : (a == b) = true := by simpa using h
    have e : a = b := (Go.MapKept.bytes_beq a b).1 h'
    subst e
    unfold Instr.sameBits
    cases n <;> exact h'
  · cases h

theorem vmapUpdate_does (S : SR X) (M : Dom X) (hD : ∀ id, X.D id ↔ id < X.H.length) {t : TypeId} {a b c : AV} {r : AV × Hp} (h : vmapUpdate P X.H t a b c = some r) {u v z : Value} (ha : RA X a u) (hb : RA X b v) (hc : RA X c z) :
    X.H.length ≤ r.2.length ∧ r.1 = und ∧ ∃ Y, (Instr.mapUpdate t u v z).run P X.w = .ok () Y.w ∧ Nxt X Y ∧ Y.H = r.2 ∧ (∀ id, Y.D id ↔ id < r.2.length) := by
  unfold vmapUpdate at h
  split at h
  case h_2 => cases h
  rename_i id l k kd z0 x hm hk ht
  split at h
  case isFalse => cases h
  rename_i hko
  obtain ⟨key, elem, u1, u2, u3, u4⟩ := mapTy_facts ht
  obtain ⟨blk, es, ck, hd, hl, rfl, k1, k2, k3, k4, ⟨k5, rfl⟩, k6, k7⟩ := mp_ent S hm ha
  have hv : v = k := AV.sc_sound hk hb
  subst hv
  rw [k6] at h
  have hx : RC X.I X.w x z := hc
  split at h
  case h_2 => cases h
  rename_i r' hf
  cases h
  refine ⟨by simp, rfl, ?_⟩
  cases r' with
  | some j =>
    obtain ⟨hfn, hj⟩ := findM_now hko (i := 0) hf
    obtain ⟨hj1, e, hj2, hje⟩ := hj j rfl
    have hj3 : es[j]? = some e := by simpa using hj2
    have hjs : j < es.size := (Array.getElem?_eq_some_iff.1 hj3).1
    obtain ⟨Y, hY1, hY2, hY3, hY4⟩ := wrote_map S M hD hd hl k1 k2 k3 k4 (l' := putM l v x (some j)) (es' := es.modify j fun e => { e with key := v, val := z }) (w' := setOb X.w blk (.map (es.modify j fun e => { e with key := v, val := z }) l.1)) (by simp [putM, k5]) (fun i p y hp hy => by
      rw [Array.getElem?_modify] at hy
      simp only [putM, List.getElem?_modify] at hp
      by_cases hij : j = i
      · subst hij
        rw [if_pos rfl, hj3] at hy
        have hjl : j < l.2.length := by omega
        simp only [if_true, List.getElem?_eq_getElem hjl] at hp
        obtain ⟨_, x0, hx0, _⟩ := k7 j _ e (List.getElem?_eq_getElem hjl) hj3
        cases hy
        cases hp
        exact ⟨rfl, x, by show x :: List.drop 1 l.2[j].2 = _; rw [hx0]; rfl, hx⟩
      · rw [if_neg hij] at hy
        simp only [if_neg hij] at hp
        exact k7 i p y (by simpa using hp) hy) rfl ⟨⟨rfl, rfl⟩, rfl, Nat.le_refl _⟩
    refine ⟨Y, ?_, hY2, hY3, hY4⟩
    rw [hY1]
    unfold Instr.mapUpdate
    have hbits := keyEq_bits (n := 10000) hje
    simp only [Sem.run_bind, pv_run u1, Result.andThen, getObj, Sem.run, k2, kind_check u2 hko, find_run u2 hko hf, Option.bind_some, hj2, Option.map_some, hj3, Option.getD_some, Instr.keyThatStays, hbits, if_true, Sem.run_pure, setObj]
    rfl
  | none =>
    obtain ⟨Y, hY1, hY2, hY3, hY4⟩ := wrote_map S M hD hd hl k1 k2 k3 k4 (l' := putM l v x none) (es' := es.push { key := v, val := z, born := l.1 }) (w' := setOb X.w blk (.map (es.push { key := v, val := z, born := l.1 }) (l.1 + 1))) (by simp [putM, k5]) (fun i p y hp hy => by
      rw [Array.getElem?_push] at hy
      simp only [putM] at hp
      by_cases hij : i = es.size
      · subst hij
        rw [if_pos rfl] at hy
        rw [List.getElem?_append_right (by omega), k5, Nat.sub_self] at hp
        cases hp; cases hy
        exact ⟨rfl, x, rfl, hx⟩
      · rw [if_neg hij] at hy
        have hi : i < es.size := (Array.getElem?_eq_some_iff.1 hy).1
        rw [List.getElem?_append_left (by omega)] at hp
        exact k7 i p y hp hy) rfl ⟨⟨rfl, rfl⟩, rfl, Nat.le_refl _⟩
    refine ⟨Y, ?_, hY2, hY3, hY4⟩
    rw [hY1]
    unfold Instr.mapUpdate
    simp only [Sem.run_bind, pv_run u1, Result.andThen, getObj, Sem.run, k2, kind_check u2 hko, find_run u2 hko hf, Option.bind_none, setObj]
    rfl

theorem vdelete_does (S : SR X) (M : Dom X) (hD : ∀ id, X.D id ↔ id < X.H.length) {t t' ty : TypeId} {a b : AV} {r : AV × Hp} (h : vdelete P X.H t a b = some r) {u v : Value} (ha : RA X a u) (hb : RA X b v) :
    WDoes P X r (Builtin.delete_ #[t, t'] ty #[u, v]) := by
  unfold vdelete at h
  split at h
  case h_2 => cases h
  rename_i id l k kd z0 hm hk ht
  split at h
  case isFalse => cases h
  rename_i hko
  obtain ⟨key, elem, u1, u2, u3, u4⟩ := mapTy_facts ht
  obtain ⟨blk, es, ck, hd, hl, rfl, k1, k2, k3, k4, ⟨k5, rfl⟩, k6, k7⟩ := mp_ent S hm ha
  have hv : v = k := AV.sc_sound hk hb
  subst hv
  rw [k6] at h
  split at h
  · rename_i j hf
    cases h
    obtain ⟨hfn, hj⟩ := findM_now hko (i := 0) hf
    obtain ⟨hj1, e, hj2, hje⟩ := hj j rfl
    have hj3 : es[j]? = some e := by simpa using hj2
    have hjs : j < es.size := (Array.getElem?_eq_some_iff.1 hj3).1
    have hes : es.eraseIdxIfInBounds j = es.eraseIdx j hjs := by simp [Array.eraseIdxIfInBounds, hjs]
    obtain ⟨Y, hY1, hY2, hY3, hY4⟩ := wrote_map S M hD hd hl k1 k2 k3 k4 (l' := (l.1, l.2.eraseIdx j)) (es' := es.eraseIdxIfInBounds j) (w' := setOb X.w blk (.map (es.eraseIdxIfInBounds j) l.1)) (by rw [hes]; simp only [List.length_eraseIdx]; rw [if_pos (by omega)]; simp [k5]) (fun i p y hp hy => by
      rw [hes, Array.getElem?_eraseIdx] at hy
      simp only [List.getElem?_eraseIdx] at hp
      by_cases hij : i < j
      · rw [if_pos hij] at hp hy
        exact k7 i p y hp hy
      · rw [if_neg hij] at hp hy
        exact k7 (i + 1) p y hp hy) rfl ⟨⟨rfl, rfl⟩, rfl, Nat.le_refl _⟩
    refine ⟨by simp, .tuple #[], Y, ?_, hY2, hY3, hY4, ⟨[], rfl, rfl, fun j p y hp => by simp at hp⟩⟩
    rw [hY1]
    unfold Builtin.delete_
    simp only [List.getElem?_toArray, List.getElem?_cons_zero, List.getElem?_cons_succ, Sem.run_bind, pv_run u1, Result.andThen, getObj, Sem.run, k2, kind_check u2 hko, find_run u2 hko hf, Option.bind_some, hj2, Option.map_some, setObj]
    rfl
  · rename_i hf
    cases h
    obtain ⟨Y, hY1, hY2, hY3, hY4⟩ := wrote_map S M hD hd hl k1 k2 k3 k4 (l' := l) (es' := es) (w' := setOb X.w blk (.map es l.1)) k5 k7 rfl ⟨⟨rfl, rfl⟩, rfl, Nat.le_refl _⟩
    refine ⟨by simp, .tuple #[], Y, ?_, hY2, hY3, hY4, ⟨[], rfl, rfl, fun j p y hp => by simp at hp⟩⟩
    rw [hY1]
    unfold Builtin.delete_
    simp only [List.getElem?_toArray, List.getElem?_cons_zero, List.getElem?_cons_succ, Sem.run_bind, pv_run u1, Result.andThen, getObj, Sem.run, k2, kind_check u2 hko, find_run u2 hko hf, Option.bind_none, setObj]
    rfl
  · cases h

theorem vmapEntry_does (S : SR X) (M : Dom X) (hD : ∀ id, X.D id ↔ id < X.H.length) {t : TypeId} {a b : AV} {r : AV × Hp} (h : vmapEntry P X.H t a b = some r) {u v : Value} (ha : RA X a u) (hb : RA X b v) : WDoes P X r (Instr.mapEntry t u v) := by
  unfold vmapEntry at h
  split at h
  case h_2 => cases h
  rename_i id l k kd z0 hm hk ht
  split at h
  case isFalse => cases h
  rename_i hko
  obtain ⟨key, elem, u1, u2, u3, u4⟩ := mapTy_facts ht
  obtain ⟨blk, es, ck, hd, hl, rfl, k1, k2, k3, k4, ⟨k5, rfl⟩, k6, k7⟩ := mp_ent S hm ha
  have hv : v = k := AV.sc_sound hk hb
  subst hv
  rw [k6] at h
  split at h
  case h_2 => cases h
  rename_i j hf
  split at h
  case h_2 => cases h
  rename_i q x st hlj
  cases h
  obtain ⟨hfn, hj⟩ := findM_now hko (i := 0) hf
  obtain ⟨hj1, e, hj2, hje⟩ := hj j rfl
  have hj3 : es[j]? = some e := by simpa using hj2
  have hjs : j < es.size := (Array.getElem?_eq_some_iff.1 hj3).1
  obtain ⟨_, x0, hx0, hx1⟩ := k7 j _ e hlj hj3
  simp only [List.cons.injEq, and_true] at hx0
  obtain ⟨rfl, rfl⟩ := hx0
  obtain ⟨Y, hY1, hY2, hY3, hY4⟩ := wrote_map S M hD hd hl k1 k2 k3 k4 (l' := (l.1, l.2.modify j fun p => (v, p.2))) (es' := es.modify j fun e => { e with key := v }) (w' := setOb X.w blk (.map (es.modify j fun e => { e with key := v }) l.1)) (by simp [k5]) (fun i p y hp hy => by
    rw [Array.getElem?_modify] at hy
    simp only [List.getElem?_modify] at hp
    by_cases hij : j = i
    · subst hij
      rw [if_pos rfl, hj3] at hy
      simp only [if_true, hlj] at hp
      cases hy
      cases hp
      exact ⟨rfl, x, rfl, hx1⟩
    · rw [if_neg hij] at hy
      simp only [if_neg hij] at hp
      exact k7 i p y (by simpa using hp) hy) rfl ⟨⟨rfl, rfl⟩, rfl, Nat.le_refl _⟩
  refine ⟨by simp, .tuple #[e.val, .int .i64 e.born], Y, ?_, hY2, hY3, hY4, ?_⟩
  · rw [hY1]
    unfold Instr.mapEntry
    have hbits := keyEq_bits (n := 10000) hje
    simp only [Sem.run_bind, pv_run u1, Result.andThen, getObj, Sem.run, k2, kind_check u2 hko, find_run u2 hko hf, Option.bind_some, hj2, Option.map_some, hj3, Option.getD_some, Instr.keyThatStays, hbits, if_true, Sem.run_pure, setObj]
    rfl
  · have hr : RC Y.I Y.w x e.val := by
      have : RA X (.one (.c x)) e.val := hx1
      exact hY2.ra _ _ this
    refine ⟨[e.val, .int .i64 e.born], rfl, rfl, fun j p y hp hy => ?_⟩
    match j with
    | 0 => cases hp; cases hy; exact ⟨_, rfl, hr⟩
    | 1 => cases hp; cases hy; exact ⟨_, rfl, .v _ rfl⟩
    | j + 2 => simp at hp

theorem ventryStore_does (S : SR X) (M : Dom X) (hD : ∀ id, X.D id ↔ id < X.H.length) {t : TypeId} {a b c : AV} {r : AV × Hp} (h : ventryStore X.H a b c = some r) {u v z : Value} (ha : RA X a u) (hb : RA X b v) (hc : RA X c z) :
    X.H.length ≤ r.2.length ∧ r.1 = und ∧ ∃ Y, (Instr.entryStore t u v z).run P X.w = .ok () Y.w ∧ Nxt X Y ∧ Y.H = r.2 ∧ (∀ id, Y.D id ↔ id < r.2.length) := by
  unfold ventryStore at h
  split at h
  case h_2 => cases h
  rename_i id l n x hm
  split at h
  case h_2 => cases h
  rename_i j hf
  cases h
  obtain ⟨blk, es, ck, hd, hl, rfl, k1, k2, k3, k4, ⟨k5, rfl⟩, k6, k7⟩ := mp_ent S hm ha
  have hv : v = .int .i64 n := by cases hb; rfl
  subst hv
  have hx : RC X.I X.w x z := hc
  -- the first entry of that stamp
  have hst : ∀ i, ∀ h1 : i < l.2.length, ∀ h2 : i < es.size, stampIs n l.2[i] = decide ((es[i].born : Int) = n) := by
    intro i h1 h2
    obtain ⟨_, x0, hx0, _⟩ := k7 i _ _ (List.getElem?_eq_getElem h1) (Array.getElem?_eq_getElem h2)
    unfold stampIs
    rw [hx0]
    rfl
  obtain ⟨hjl, hjt, hjf⟩ := List.findIdx?_eq_some_iff_getElem.1 hf
  have hjs : j < es.size := by omega
  have hfa : es.findIdx? (fun e => (e.born : Int) == n) = some j := by
    rw [Array.findIdx?_eq_some_iff_getElem]
    refine ⟨hjs, ?_, fun i hi => ?_⟩
    · have := hst j hjl hjs
      rw [hjt] at this
      simpa using this.symm
    · have := hjf i hi
      rw [hst i (by omega) (by omega)] at this
      simpa using this
  obtain ⟨Y, hY1, hY2, hY3, hY4⟩ := wrote_map S M hD hd hl k1 k2 k3 k4 (l' := (l.1, l.2.modify j fun p => (p.1, x :: p.2.drop 1))) (es' := es.modify j fun e => { e with val := z }) (w' := setOb X.w blk (.map (es.modify j fun e => { e with val := z }) l.1)) (by simp [k5]) (fun i p y hp hy => by
    rw [Array.getElem?_modify] at hy
    simp only [List.getElem?_modify] at hp
    by_cases hij : j = i
    · subst hij
      rw [if_pos rfl, Array.getElem?_eq_getElem hjs] at hy
      simp only [if_true, List.getElem?_eq_getElem hjl] at hp
      obtain ⟨g1, x0, hx0, _⟩ := k7 j _ _ (List.getElem?_eq_getElem hjl) (Array.getElem?_eq_getElem hjs)
      cases hy
      cases hp
      exact ⟨g1, x, by show x :: List.drop 1 l.2[j].2 = _; rw [hx0]; rfl, hx⟩
    · rw [if_neg hij] at hy
      simp only [if_neg hij] at hp
      exact k7 i p y (by simpa using hp) hy) rfl ⟨⟨rfl, rfl⟩, rfl, Nat.le_refl _⟩
  refine ⟨by simp, rfl, Y, ?_, hY2, hY3, hY4⟩
  rw [hY1]
  unfold Instr.entryStore
  have hai : (asInt (.int .i64 n)).run P X.w = .ok n X.w := rfl
  simp only [Sem.run_bind, Result.andThen, getObj, Sem.run, k2, hai, hfa, setObj]
  rfl

/-- A longer heap, of which no more is told. -/
def longer (X : Cx) (K : Hp) : Cx := { X with H := K }

theorem longer_rpt {K : Hp} (hK : ∀ (id : Nat) e, X.H[id]? = some e → K[id]? = some e) {p : Pt} {v : Value} (h : RPt X p v) : RPt (longer X K) p v := by
  obtain ⟨h0, h1, e, h2, h3⟩ := h
  exact ⟨h0, h1, e, hK _ _ h2, h3⟩

theorem longer_rcell {K : Hp} (hK : ∀ (id : Nat) e, X.H[id]? = some e → K[id]? = some e) {c : Cell} {v : Value} (h : RCell X c v) : RCell (longer X K) c v := by
  cases c with
  | c x => exact h
  | sl i o n tot =>
    obtain ⟨h0, h1, e, h2, h3⟩ := h
    exact ⟨h0, h1, e, hK _ _ h2, h3⟩
  | ptr p => exact longer_rpt hK h
  | fn f caps =>
    obtain ⟨vs, h1, h2, h3⟩ := h
    refine ⟨vs, h1, h2, fun j x y hx hy => ?_⟩
    have := h3 j x y hx hy
    cases x with
    | inl x => exact this
    | inr p => exact longer_rpt hK this
  | mp i =>
    obtain ⟨h1, l, b, h2, h3⟩ := h
    exact ⟨h1, l, b, hK _ _ h2, h3⟩

theorem longer_ra {K : Hp} (hK : ∀ (id : Nat) e, X.H[id]? = some e → K[id]? = some e) {a : AV} {v : Value} (h : RA X a v) : RA (longer X K) a v := by
  have cells : ∀ {l : List Cell} {vs : List Value}, RCells X l vs → RCells (longer X K) l vs := fun h => ⟨h.1, fun j c y hc hy => longer_rcell hK (h.2 j c y hc hy)⟩
  cases a with
  | one c => exact longer_rcell hK h
  | agg l =>
    obtain ⟨vs, h1, h2⟩ := h
    exact ⟨vs, h1, cells h2⟩
  | tup l =>
    obtain ⟨vs, h1, h2, h3⟩ := h
    refine ⟨vs, h1, h2, fun j p y hp hy => ?_⟩
    have := h3 j p y hp hy
    unfold RP at *
    split
    · rename_i hb
      rw [if_pos hb] at this
      obtain ⟨us, a1, a2⟩ := this
      exact ⟨us, a1, cells a2⟩
    · rename_i hb
      rw [if_neg hb] at this
      obtain ⟨c, a1, a2⟩ := this
      exact ⟨c, a1, longer_rcell hK a2⟩

theorem longer_nxt {K : Hp} (S : SR X) (M : Dom X) (hK : ∀ (id : Nat) e, X.H[id]? = some e → K[id]? = some e) : Nxt X (longer X K) := by
  refine ⟨⟨fun id e hd he => ?_, S.inj, S.size, S.old, S.imm, S.kp, S.tab⟩, fun id hd => ?_, rfl, rfl, fun _ h => h, fun _ h => h, fun _ h => .inl h, fun _ _ h => longer_ra hK h⟩
  · obtain ⟨e0, h0⟩ := M id hd
    have : K[id]? = some e0 := hK _ _ h0
    have he' : K[id]? = some e := he
    rw [this] at he'
    cases he'
    have hent := S.ent id e hd h0
    cases e with
    | clo l f =>
      refine ⟨hent.1, ?_⟩
      rcases hent.2 with h | ⟨b, c, ty, fr, g1, g2, g3, g4, g5, g6, g7, g8, g9, g10⟩
      · exact .inl h
      · exact .inr ⟨b, c, ty, fr, g1, g2, g3, g4, g5, g6, g7, g8, g9, g10⟩
    | opn l f =>
      refine ⟨hent.1, ?_⟩
      rcases hent.2 with h | ⟨b, c, ty, fr, g1, g2, g3, g4, g5, g6, g7, g8, g9, g10⟩
      · exact .inl h
      · refine .inr ⟨b, c, ty, fr, g1, g2, g3, g4, g5, g6, g7, g8, g9, fun i j hi hj => ?_⟩
        obtain ⟨v, hv, e, x, a1, a2, a3⟩ := g10 i j hi hj
        exact ⟨v, hv, e, x, a1, a2, longer_rcell hK a3⟩
    | mp l => exact hent
  · obtain ⟨e0, h0⟩ := M id hd
    exact ⟨e0, hK _ _ h0⟩


/-- A new entry, told of at the heap's end. -/
theorem append_nxt (S : SR X) (M : Dom X) (hD : ∀ id, X.D id ↔ id < X.H.length) (e : Ent) :
    let X1 := longer X (X.H ++ [e]); Nxt X X1 ∧ X1.H[X.H.length]? = some e ∧ ¬ X1.D X.H.length := by
  refine ⟨longer_nxt S M fun id e0 he => ?_, ?_, ?_⟩
  · rw [List.getElem?_append_left (List.getElem?_eq_some_iff.1 he).1]
    exact he
  · show (X.H ++ [e])[X.H.length]? = some e
    rw [List.getElem?_append_right (Nat.le_refl _), Nat.sub_self]
    rfl
  · show ¬ X.D X.H.length
    rw [hD]
    exact Nat.lt_irrefl _

theorem vmakeMap_does (S : SR X) (M : Dom X) (hD : ∀ id, X.D id ↔ id < X.H.length) {t : TypeId} {r : AV × Hp} (h : vmakeMap X.H = some r) : WDoes P X r (Instr.makeMap t none) := by
  cases h
  obtain ⟨N1, he, hn⟩ := append_nxt S M hD (.mp (0, []))
  let X1 := longer X (X.H ++ [.mp (0, [])])
  have S1 : SR X1 := N1.sr
  let w' := X.w.alloc (.map #[] 0)
  let Y : Cx := { X1 with D := fun id => X.D id ∨ id = X.H.length, σ := fun id => if id = X.H.length then ⟨none, some X.w.heap.size, 0, 0⟩ else X.σ id, w := w' }
  have hsz : X.w.heap.size ≤ w'.heap.size := by show _ ≤ (X.w.heap.push _).size; simp
  have hp : ∀ b, b < X.w.heap.size → w'.heap[b]? = X.w.heap[b]? := fun b hb => by
    show (X.w.heap.push _)[b]? = _
    rw [Array.getElem?_push, if_neg (by omega)]
  have E : Ext X1 Y := ⟨rfl, rfl, fun _ h => .inl h, rfl, fun id h => by
    show (if id = X.H.length then _ else _) = _
    rw [if_neg (fun e => hn (by rw [← e]; exact h))]
    rfl, fun _ h => h, hsz, hp, ⟨⟨rfl, rfl⟩, rfl, Nat.le_refl _⟩⟩
  have hs : Y.σ X.H.length = ⟨none, some X.w.heap.size, 0, 0⟩ := if_pos rfl
  have SY : SR Y := S1.new E X.H.length hn (fun id => Iff.rfl) (fun e h => by
    have : X1.H[X.H.length]? = some (.mp (0, [])) := he
    rw [this] at h
    cases h
    refine ⟨X.w.heap.size, #[], 0, by rw [hs], ?_, S.size, fun hb => absurd (S.imm _ hb) (Nat.lt_irrefl _), ⟨rfl, rfl⟩, fun j p y hp => by simp at hp⟩
    show (X.w.heap.push _)[X.w.heap.size]? = _
    simp) (fun b h => by rw [hs] at h; cases h; exact Nat.le_refl _) (fun b h => .inl h) (fun b h => Nat.lt_of_lt_of_le (S.imm b h) hsz) (fun id b h1 h2 => (S.blk M id b h1 h2).1)
  have MY : Dom Y := fun id hd => by
    rcases hd with h | rfl
    · exact N1.dom id h
    · exact ⟨_, he⟩
  refine ⟨by simp, .map (some X.w.heap.size), Y, rfl, N1.trans ⟨SY, MY, rfl, rfl, fun id h => .inl h, fun b h => h, fun b h => .inl h, fun _ _ h => E.ra S1 h⟩, rfl, fun id => ?_, ?_⟩
  · show X.D id ∨ id = X.H.length ↔ id < (X.H ++ [Ent.mp (0, [])]).length
    rw [hD, List.length_append]
    simp; omega
  · refine ⟨.inr rfl, (0, []), X.w.heap.size, he, by rw [hs], rfl⟩

theorem pv_under {t : TypeId} {d : TypeDesc} (h : pv P (underlying t) = some d) : P.underlying t = some d := by
  have hr := pv_run h (w := default)
  unfold underlying at hr
  simp at hr
  split at hr
  · rename_i d' hd'
    simp at hr
    rw [hd', hr]
  · simp at hr

theorem isU8_facts {t : TypeId} (h : isU8 P t = true) : ∃ e, elemOfSlice P t = some e ∧ P.underlying t = some (.slice e) ∧ P.underlying e = some (.int .u8) := by
  unfold isU8 at h
  split at h
  · rename_i e he
    split at h
    · rename_i hu
      exact ⟨e, he, elemOf_under he, pv_under hu⟩
    · cases h
  · cases h

theorem isStr_facts {t : TypeId} (h : isStrT P t = true) : P.underlying t = some .string := by
  unfold isStrT at h
  split at h
  · rename_i hu
    exact pv_under hu
  · cases h

theorem bytes_facts : ∀ {l : List (List CV)} {ns : List Int}, bytesRow' l = some ns → l = ns.map fun n => [.v (.int .u8 n)]
  | [], ns, h => by cases h; rfl
  | e :: r, ns, h => by
    unfold bytesRow' at h
    split at h
    · rename_i h1; cases h1
    · rename_i n r' he
      obtain ⟨ns', h1, rfl⟩ := Option.map_eq_some_iff.1 h
      cases he
      rw [bytes_facts h1]
      rfl
    · cases h

theorem vconvW_does (S : SR X) (M : Dom X) (hD : ∀ id, X.D id ↔ id < X.H.length) {s d : TypeId} {a : AV} {r : AV × Hp} (h : vconvW P X.H s d a = some r) {v : Value} (ha : RA X a v) : WDoes P X r (convert s d v) := by
  unfold vconvW at h
  split at h
  · rename_i hc
    simp only [Bool.and_eq_true] at hc
    obtain ⟨e, he, hd, hu⟩ := isU8_facts hc.2
    have hs := isStr_facts hc.1
    split at h
    case h_2 => cases h
    rename_i x
    split at h
    case isTrue => cases h
    rename_i hx
    cases h
    have hv : v = .string x := by cases ha; rfl
    subst hv
    have hrun := run_bytes_of_string (P := P) X.w s d e x hs hd hu
    obtain ⟨N1, hen, hn⟩ := append_nxt S M hD (.clo (bytesOf x) false)
    generalize hcap : grownCap X.w x.size 0 e = cap at hrun
    have hcap' : x.size ≤ cap := by rw [← hcap]; exact grownCap_ge _ _ _ _
    have hrs : (bytesRow x cap).size = cap * 1 := by
      unfold bytesRow
      rw [Array.size_append, Array.size_map, Array.size_replicate]
      show x.size + (cap - x.size) = cap * 1
      omega
    have hbl : (bytesOf x).length = x.size := by unfold bytesOf; rw [List.length_map, Array.length_toList]; rfl
    obtain ⟨Y, hw, hY, hσ⟩ := N1.sr.alloc N1.dom X.H.length hn hen (X.w.drew.alloc (.cells (bytesRow x cap) e ((bytesRow x cap).size, (bytesRow x cap).size + 1)))
      (by show X.w.heap.size < (X.w.heap.push _).size; rw [Array.size_push]; exact Nat.lt_succ_self _) (fun b hb => by
        have hb : b < X.w.heap.size := hb
        show (X.w.heap.push _)[b]? = _
        rw [Array.getElem?_push, if_neg (by omega)]
        rfl) ⟨⟨rfl, rfl⟩, rfl, Nat.le_succ _⟩ (bytesRow x cap) e ((bytesRow x cap).size, (bytesRow x cap).size + 1) (by show (X.w.heap.push _)[X.w.heap.size]? = _; simp) (fun o ho => by
        have : (X.w.drew.alloc (.cells (bytesRow x cap) e ((bytesRow x cap).size, (bytesRow x cap).size + 1))).heap[X.w.heap.size]? = some (.cells (bytesRow x cap) e ((bytesRow x cap).size, (bytesRow x cap).size + 1)) := by
          show (X.w.heap.push _)[X.w.heap.size]? = _
          simp
        unfold World.frozen?
        show (match (X.w.drew.alloc (.cells (bytesRow x cap) e ((bytesRow x cap).size, (bytesRow x cap).size + 1))).heap[X.w.heap.size]? with | some (.cells _ _ (lo, hi)) => decide (lo ≤ o) && decide (o < hi) | _ => false) = false
        rw [this]
        simp; omega) cap 1 hrs ⟨by simp only [Ent.len]; omega, by simp only [Ent.len]; omega⟩ ⟨fun e he => by obtain ⟨y, _, rfl⟩ := List.mem_map.1 he; rfl, fun i j hi hj => by
        have hj0 : j = 0 := by omega
        subst hj0
        have hi' : i < x.data.size := by rw [hbl] at hi; exact hi
        have hi2 : i < (x.data.map (fun b => Value.int .u8 b.toNat)).size := by simpa using hi'
        refine ⟨.int .u8 x.data[i].toNat, ?_, [.v (.int .u8 x.data[i].toNat)], .v (.int .u8 x.data[i].toNat), ?_, rfl, .v _ rfl⟩
        case refine_2 =>
          rw [List.getElem?_eq_getElem hi]
          simp [bytesOf]
        unfold bytesRow
        rw [Nat.mul_one, Nat.add_zero, Array.getElem?_append_left hi2, Array.getElem?_map, Array.getElem?_eq_getElem hi']
        rfl⟩
    have hN := N1.trans (hY.nxt N1.sr)
    refine ⟨by simp, _, Y, by rw [hw]; exact hrun, hN, hY.ext.H, fun id => ?_, ?_⟩
    · rw [hY.D]
      show X.D id ∨ _ ↔ id < (X.H ++ [Ent.clo (bytesOf x) false]).length
      rw [hD, List.length_append]
      simp; omega
    · exact sl_new hY (by omega) hen (by simp only [Ent.len]; exact hbl) hcap' hσ
  · split at h
    case isFalse => cases h
    rename_i hc
    simp only [Bool.and_eq_true] at hc
    obtain ⟨e, he, hd, hu⟩ := isU8_facts hc.1
    have hs := isStr_facts hc.2
    split at h
    case h_2 => cases h
    rename_i l hl
    split at h
    case h_2 => cases h
    rename_i ns hns
    cases h
    have hlm := bytes_facts hns
    obtain ⟨ad, cap, news, rfl, h1, h2, h3, h4⟩ := elemsOf_sound S hl ha (sz := 1) (fun e he => by rw [hlm] at he; obtain ⟨y, _, rfl⟩ := List.mem_map.1 he; rfl)
    have hll : l.length = ns.length := by rw [hlm]; simp
    have hnews : news = ns.map (Value.int .u8) := by
      apply List.ext_getElem?
      intro j
      by_cases hj : j < ns.length
      · obtain ⟨u, hu1, e1, x1, k1, k2, k3⟩ := h4 j 0 (by omega) (by omega)
        rw [hlm, List.getElem?_map, List.getElem?_eq_getElem hj] at k1
        cases k1
        cases k2
        cases k3
        rw [Nat.mul_one, Nat.add_zero] at hu1
        rw [hu1, List.getElem?_map, List.getElem?_eq_getElem hj]
        rfl
      · rw [List.getElem?_eq_none (by omega), List.getElem?_eq_none (by simp; omega)]
    refine ⟨Nat.le_refl _, .string (strOf ns), X, ?_, .refl S M, rfl, hD, .v _ rfl⟩
    unfold convert
    simp only [Sem.run_bind, run_underlying hd, run_underlying hs, run_underlying hu, Result.andThen]
    rcases h3 with rfl | ⟨b, o, rfl, hb, hc2⟩
    · have hn0 : ns = [] := by cases ns with | nil => rfl | cons a t => simp at hll
      subst hn0
      cases ad with
      | none => rfl
      | some a =>
        have := run_bytesToString (P := P) X.w a 0 cap [] (by simp [loadCells, loadCellsFrom])
        exact this
    · have := run_bytesToString (P := P) X.w ⟨b, o, none⟩ l.length cap ns (by
        have h5 := run_loadCells_list (P := P) (w := X.w) ⟨b, o, none⟩ news (fun j v hj => by rw [add_plain]; exact hc2 j v hj)
        rw [h1, Nat.mul_one] at h5
        rw [h5, hnews])
      exact this

end Go.Proofs.Vm
end

section
/- Elements of one slice copied into another one. -/
namespace Go.Proofs.Vm
open Go

variable {P : Program} {X : Cx}

def vcopy (P : Program) (H : Hp) (t : TypeId) (a b : AV) : Option (AV × Hp) :=
  match a, elemsOf H b, elemOfSlice P t with
  | .one (.sl id o n tot), some xs, some e => match H[id]?, pv P (typeInfo e) with
    | some (.clo l false), some i =>
      if l.length = tot ∧ o + n ≤ tot ∧ (∀ e ∈ l, e.length = i.size) ∧ (∀ e ∈ xs, e.length = i.size) then
        some (.one (.c (.v (.int .i64 (min xs.length n : Nat)))), H.set id (.clo (wr l o (xs.take n)) false)) else none
    | _, _ => none
  | _, _, _ => none

theorem vcopy_len {H : Hp} {t : TypeId} {a b : AV} {r : AV × Hp} (hv : vcopy P H t a b = some r) : r.2.length = H.length := by
  unfold vcopy at hv
  split at hv
  case h_2 => cases hv
  split at hv
  case h_2 => cases hv
  split at hv
  case isFalse => cases hv
  cases hv
  simp

theorem vcopy_does (S : SR X) (M : Dom X) (hD : ∀ id, X.D id ↔ id < X.H.length) {t t' ty : TypeId} {a b : AV} {r : AV × Hp} (h : vcopy P X.H t a b = some r) {v u : Value} (hv : RA X a v) (hu : RA X b u) :
    WDoes P X r (Builtin.copy_ #[t, t'] ty #[v, u]) := by
  refine ⟨Nat.le_of_eq (vcopy_len h).symm, ?_⟩
  unfold vcopy at h
  split at h
  case h_2 => cases h
  rename_i id o n tot xs e hx he
  split at h
  case h_2 => cases h
  rename_i l i hl hi
  split at h
  case isFalse => cases h
  rename_i hc
  obtain ⟨hlen, hon, hsl, hsx⟩ := hc
  cases h
  have hii := typeInfo_run hi
  obtain ⟨_, hd, e0, he0, hle, hle2, hp⟩ := hv
  rw [hl] at he0
  cases he0
  obtain ⟨ad, cap, rfl, hnc, had, hfull⟩ := hp hlen
  have hent := S.ent _ _ hd hl
  obtain ⟨ax, cx, news, rfl, hnl, hn1, hnc', hnok⟩ := elemsOf_sound S hx hu hsx
  have hu' := elemOf_under he
  have hszr : ∀ w, (sizeOf e).run P w = .ok i.size w := fun w => by simp [sizeOf, typeInfo, hii]
  by_cases hk : min xs.length n = 0
  · have hw : wr l o (xs.take n) = l := by
      have : xs.take n = [] := by
        apply List.eq_nil_of_length_eq_zero
        rw [List.length_take]; omega
      rw [this]; rfl
    refine ⟨goInt 0, X, ?_, .refl S M, ?_, fun id' => ?_, ?_⟩
    · have hl0 : ∀ (x : Addr), (loadCells x 0).run P X.w = .ok #[] X.w := fun x => by simpa using run_loadCells_list (P := P) X.w x [] (by simp)
      have hmin : Nat.min xs.length n = 0 := hk
      cases ad <;> cases ax <;> simp [Builtin.copy_, run_underlying hu', Builtin.lenOf, Builtin.firstCells, hszr, hmin, storeCells, hl0]
    · rw [hw]; exact (set_same hl).symm
    · rw [hD]; simp
    · rw [hk]; exact .v _ rfl
  · have hn0 : n ≠ 0 := by omega
    have hxs : xs ≠ [] := by rintro rfl; simp at hk
    obtain ⟨b0, hb0, rfl⟩ := had hn0
    obtain ⟨bx, ox, rfl, hbx, hnews⟩ := hnc'.resolve_left hxs
    rcases hent.2 with ⟨h0, _⟩ | ⟨b, c, ty', fr, g1, g2, g3, g4, g5, g6, g7, g8, g9, g10⟩
    · have hl0 : l.length = 0 := h0
      rw [hlen] at hl0
      rw [hl0] at hon
      exact (hn0 (Nat.le_zero.1 (Nat.le_trans (Nat.le_add_left _ _) hon))).elim
    rw [hb0] at g1
    cases g1
    have hsz : (X.σ id).sz = i.size := by
      cases l with
      | nil => simp at g6
      | cons y ys => rw [← hent.1 y (by simp), hsl y (by simp)]
    rw [hsz] at g5 g10
    generalize hkd : min xs.length n = k at *
    have hkn : Nat.min xs.length n = k := hkd
    have hkx : k ≤ xs.length := by omega
    have hko : o + k ≤ l.length := by omega
    -- the cells
    obtain ⟨cs, hcs⟩ : ∃ cs, cs = news.take (k * i.size) := ⟨_, rfl⟩
    have hcl : cs.length = k * i.size := by
      rw [hcs, List.length_take, hnl]
      exact Nat.min_eq_left (Nat.mul_le_mul_right _ hkx)
    have hcget : ∀ (j : Nat) u, cs[j]? = some u → news[j]? = some u := fun j u hj => by
      rw [hcs, List.getElem?_take] at hj
      split at hj
      · exact hj
      · cases hj
    have hfit : o * i.size + cs.length ≤ c.size := by
      rw [g5, hcl, ← Nat.add_mul]
      exact Nat.mul_le_mul_right _ (by omega)
    obtain ⟨a1, a2, a3⟩ := setCells_heap b0 cs (o * i.size) X.w c ty' fr g3 hfit
    have hload : (loadCells ⟨bx, ox, none⟩ (k * i.size)).run P X.w = .ok cs.toArray X.w := by
      rw [← hcl]
      exact run_loadCells_list (P := P) X.w ⟨bx, ox, none⟩ cs (fun j u hj => by rw [add_plain]; exact hnews j u (hcget j u hj))
    have hstore := run_storeCells_cells (P := P) b0 (o * i.size) cs 0 X.w (fun j hj => by
        have : o * i.size + j < c.size := by omega
        simp [World.cell?, g3, this]) (fun j hj => by
        have := g4 (o * i.size + j) (by omega)
        simpa using this) (fun u hu => by
        obtain ⟨j, hj⟩ := List.getElem?_of_mem hu
        exact hn1 u (List.mem_of_getElem? (hcget j u hj)))
    rw [Nat.add_zero] at hstore
    have hys : (xs.take n).length = k := by rw [List.length_take]; omega
    let l2 := wr l o (xs.take n)
    have hl2 : l2.length = l.length := wr_length _ _ _
    let Y : Cx := { X with H := X.H.set id (.clo l2 false), w := X.w.setCells b0 (o * i.size) cs }
    have W : Wrote X Y id := ⟨rfl, rfl, fun _ => Iff.rfl, fun _ _ _ => rfl, rfl, fun j hj => set_get hj, Nat.le_of_eq a3.symm, fun k _ hk => a2 k (hk b0 hb0),
      ⟨_, _, hl, set_self hl, by simp only [Ent.len, hl2]; omega, fun _ => rfl, fun l h => by cases h⟩, hd, setCells_stl _ _ _ _, fun k hk => by rw [hb0] at hk; cases hk; exact g9 rfl⟩
    have l2get : ∀ a, l2[a]? = if o ≤ a ∧ a < o + k then xs[a - o]? else l[a]? := fun a => by
      show (wr l o (xs.take n))[a]? = _
      rw [wr_get _ _ _ _ (by rw [hys]; exact hko), hys]
      split
      · rw [List.getElem?_take, if_pos (by omega)]
      · rfl
    have SY : SR Y := W.sr S M (fun e' h => by
      have : Y.H[id]? = some (.clo l2 false) := set_self hl
      rw [this] at h
      cases h
      refine ⟨fun e he => ?_, .inr ⟨b0, _, ty', fr, hb0, g2, a1, fun o ho => ?_, by rw [show (Y.σ id).sz = i.size from hsz]; simp only [List.size_toArray, wr_length, Array.length_toList]; exact g5, by rw [hl2]; exact g6, g7, (fun h => by cases h), g9, fun a j ha hj => ?_⟩⟩
      · obtain ⟨a, ha⟩ := List.getElem?_of_mem he
        rw [l2get] at ha
        show e.length = (X.σ id).sz
        rw [hsz]
        split at ha
        · exact hsx e (List.mem_of_getElem? ha)
        · exact hsl e (List.mem_of_getElem? ha)
      · have := g4 o (by simpa [wr_length] using ho)
        simp only [World.frozen?, g3] at this
        show World.frozen? (X.w.setCells b0 _ cs) _ = false
        simp only [World.frozen?, a1]
        exact this
      · rw [show (Y.σ id).sz = i.size from hsz] at hj ⊢
        rw [hl2] at ha
        simp only [List.getElem?_toArray]
        rw [wr_get _ _ _ _ (by simpa using hfit)]
        by_cases han : o ≤ a ∧ a < o + k
        · obtain ⟨q, rfl⟩ : ∃ q, a = o + q := ⟨a - o, by omega⟩
          obtain ⟨v, hv, e1, x, q1, q2, q3⟩ := hnok q j (by omega) hj
          have hlt : q * i.size + j < k * i.size := by
            calc q * i.size + j < q * i.size + i.size := by omega
              _ = (q + 1) * i.size := by rw [Nat.add_mul, Nat.one_mul]
              _ ≤ k * i.size := Nat.mul_le_mul_right _ (by omega)
          rw [Nat.add_mul, if_pos (by omega)]
          refine ⟨v, ?_, e1, x, ?_, q2, W.rc S q3⟩
          · rw [show o * i.size + q * i.size + j - o * i.size = q * i.size + j by omega, hcs, List.getElem?_take, if_pos hlt]
            exact hv
          · rw [l2get, if_pos han, Nat.add_sub_cancel_left]
            exact q1
        · rw [if_neg (fun hk => by
            rw [hcl, ← Nat.add_mul] at hk
            rcases Nat.lt_or_ge a o with h | h
            · have : a * i.size + i.size ≤ o * i.size := by
                calc a * i.size + i.size = (a + 1) * i.size := by rw [Nat.add_mul, Nat.one_mul]
                  _ ≤ o * i.size := Nat.mul_le_mul_right _ (by omega)
              omega
            · have : (o + k) * i.size ≤ a * i.size := Nat.mul_le_mul_right _ (by omega)
              omega)]
          obtain ⟨v, hv, e1, x, q1, q2, q3⟩ := g10 a j (by omega) hj
          exact ⟨v, by simpa using hv, e1, x, by rw [l2get, if_neg han]; exact q1, q2, W.rc S q3⟩) (fun b' h => .inl h)
    refine ⟨goInt k, Y, ?_, W.nxt S M SY, rfl, fun id' => ?_, ?_⟩
    · rw [hsz]
      simp [Builtin.copy_, run_underlying hu', Builtin.lenOf, Builtin.firstCells, hszr, hkn, hload, hstore]
      rfl
    · show X.D id' ↔ _
      rw [hD]; simp
    · exact .v _ rfl

end Go.Proofs.Vm
end

section
/- Elements of a slice cleared. -/
namespace Go.Proofs.Vm
open Go

variable {P : Program} {X : Cx}

def plainZ : Value → Bool
  | .int _ _ => true
  | .bool _ => true
  | .string _ => true
  | _ => false
theorem plainZ_one {v : Value} (h : plainZ v = true) : v.oneCell' = true := by cases v <;> first | rfl | cases h
def vclear (P : Program) (H : Hp) (t : TypeId) (a : AV) : Option (AV × Hp) :=
  match a, elemOfSlice P t with
  | .one (.sl id o n tot), some e => match H[id]?, pv P (zeroValue e) with
    | some (.clo l false), some z =>
      if l.length = tot ∧ o + n ≤ tot ∧ z.cells.toList.all plainZ = true ∧ (∀ e ∈ l, e.length = z.cells.size) then
        some (und, H.set id (.clo (wr l o (List.replicate n (z.cells.toList.map .v))) false)) else none
    | _, _ => none
  | _, _ => none

theorem vclear_len {H : Hp} {t : TypeId} {a : AV} {r : AV × Hp} (hv : vclear P H t a = some r) : r.2.length = H.length := by
  unfold vclear at hv
  split at hv
  case h_2 => cases hv
  split at hv
  case h_2 => cases hv
  split at hv
  case isFalse => cases hv
  cases hv
  simp

theorem clear_run {t e ty : TypeId} {z : Value} {w w' : World} {b o n cap : Nat} {cs : List Value} (hu : P.underlying t = some (.slice e)) (hz : ∀ w, (zeroValue e).run P w = .ok z w) (hn : n ≠ 0) (hcs : (Builtin.zeroCells z.cells n).toList = cs)
    (hst : (storeCells ⟨b, o, none⟩ cs).run P w = .ok () w') : (Builtin.clear_ #[t] ty #[.slice (some ⟨b, o, none⟩) n cap]).run P w = .ok (.tuple #[]) w' := by
  obtain ⟨m, rfl⟩ : ∃ m, n = m + 1 := ⟨n - 1, by omega⟩
  simp [Builtin.clear_, run_underlying hu, hz, hcs, hst]

theorem vclear_does (S : SR X) (M : Dom X) (hD : ∀ id, X.D id ↔ id < X.H.length) {t ty : TypeId} {a : AV} {r : AV × Hp} (h : vclear P X.H t a = some r) {v : Value} (hv : RA X a v) :
    WDoes P X r (Builtin.clear_ #[t] ty #[v]) := by
  refine ⟨Nat.le_of_eq (vclear_len h).symm, ?_⟩
  unfold vclear at h
  split at h
  case h_2 => cases h
  rename_i id o n tot e he
  split at h
  case h_2 => cases h
  rename_i l z hl hz
  split at h
  case isFalse => cases h
  rename_i hc
  obtain ⟨hlen, hon, hpz, hsl⟩ := hc
  cases h
  obtain ⟨_, hd, e0, he0, hle, hle2, hp⟩ := hv
  rw [hl] at he0
  cases he0
  obtain ⟨ad, cap, rfl, hnc, had, hfull⟩ := hp hlen
  have hent := S.ent _ _ hd hl
  have hu' := elemOf_under he
  have hzr : ∀ w, (zeroValue e).run P w = .ok z w := fun w => pv_run hz
  have hund : ∀ Y : Cx, RA Y und (.tuple #[]) := fun Y => ⟨[], rfl, rfl, fun j p y hp => by simp at hp⟩
  by_cases hn0 : n = 0
  · subst hn0
    have hw : wr l o (List.replicate 0 (z.cells.toList.map CV.v)) = l := rfl
    refine ⟨.tuple #[], X, ?_, .refl S M, ?_, fun id' => ?_, hund X⟩
    · cases ad <;> simp [Builtin.clear_, run_underlying hu']
    · rw [hw]; exact (set_same hl).symm
    · rw [hD]; simp
  · obtain ⟨b0, hb0, rfl⟩ := had hn0
    rcases hent.2 with ⟨h0, _⟩ | ⟨b, c, ty', fr, g1, g2, g3, g4, g5, g6, g7, g8, g9, g10⟩
    · have hl0 : l.length = 0 := h0
      rw [hlen] at hl0
      rw [hl0] at hon
      exact (hn0 (Nat.le_zero.1 (Nat.le_trans (Nat.le_add_left _ _) hon))).elim
    rw [hb0] at g1
    cases g1
    obtain ⟨s, hs⟩ : ∃ s, z.cells.size = s := ⟨_, rfl⟩
    rw [hs] at hsl
    have hsz : (X.σ id).sz = s := by
      cases l with
      | nil => simp at g6
      | cons y ys => rw [← hent.1 y (by simp), hsl y (by simp)]
    rw [hsz] at g5 g10
    obtain ⟨zs, hzs⟩ : ∃ zs, z.cells.toList = zs := ⟨_, rfl⟩
    have hzl : zs.length = s := by rw [← hzs]; simpa using hs
    rw [hzs] at hpz ⊢
    obtain ⟨cs, hcs⟩ : ∃ cs, cs = (Builtin.zeroCells z.cells n).toList := ⟨_, rfl⟩
    have hcl : cs.length = n * s := by rw [hcs]; simp [Builtin.zeroCells, hs]
    have hcg : ∀ q j, q < n → j < s → ∃ v, zs[j]? = some v ∧ cs[q * s + j]? = some v := fun q j hq hj => by
      have hlt : q * s + j < n * s := by
        calc q * s + j < q * s + s := by omega
          _ = (q + 1) * s := by rw [Nat.add_mul, Nat.one_mul]
          _ ≤ n * s := Nat.mul_le_mul_right _ (by omega)
      have hm : (q * s + j) % s = j := by rw [Nat.mul_comm, Nat.mul_add_mod, Nat.mod_eq_of_lt hj]
      refine ⟨zs[j]'(by omega), List.getElem?_eq_getElem _, ?_⟩
      rw [hcs]
      simp only [Builtin.zeroCells, Array.toList_map, Array.toList_range, hs, List.getElem?_map]
      rw [List.getElem?_range hlt]
      simp only [Option.map_some, hm]
      subst hzs
      rw [getElem!_pos z.cells j (by omega)]
      simp
    have hcm : ∀ u ∈ cs, plainZ u = true := fun u hu => by
      rw [hcs] at hu
      simp only [Builtin.zeroCells, Array.toList_map, Array.toList_range, List.mem_map, List.mem_range] at hu
      obtain ⟨i, hi, rfl⟩ := hu
      rw [hs] at hi
      have hs0 : 0 < s := by
        rcases Nat.eq_zero_or_pos s with h | h
        · rw [h] at hi; simp at hi
        · exact h
      have hm : i % z.cells.size < z.cells.size := Nat.mod_lt _ (by omega)
      rw [getElem!_pos z.cells _ hm]
      refine List.all_eq_true.1 hpz _ ?_
      rw [← hzs]
      simp
    have hko : o + n ≤ l.length := by omega
    have hfit : o * s + cs.length ≤ c.size := by
      rw [g5, hcl, ← Nat.add_mul]
      exact Nat.mul_le_mul_right _ (by omega)
    obtain ⟨a1, a2, a3⟩ := setCells_heap b0 cs (o * s) X.w c ty' fr g3 hfit
    have hstore := run_storeCells_cells (P := P) b0 (o * s) cs 0 X.w (fun j hj => by
        have : o * s + j < c.size := by omega
        simp [World.cell?, g3, this]) (fun j hj => by
        have := g4 (o * s + j) (by omega)
        simpa using this) (fun u hu => plainZ_one (hcm u hu))
    rw [Nat.add_zero] at hstore
    let l2 := wr l o (List.replicate n (zs.map CV.v))
    have hl2 : l2.length = l.length := wr_length _ _ _
    let Y : Cx := { X with H := X.H.set id (.clo l2 false), w := X.w.setCells b0 (o * s) cs }
    have W : Wrote X Y id := ⟨rfl, rfl, fun _ => Iff.rfl, fun _ _ _ => rfl, rfl, fun j hj => set_get hj, Nat.le_of_eq a3.symm, fun k _ hk => a2 k (hk b0 hb0),
      ⟨_, _, hl, set_self hl, by simp only [Ent.len, hl2]; omega, fun _ => rfl, fun l h => by cases h⟩, hd, setCells_stl _ _ _ _, fun k hk => by rw [hb0] at hk; cases hk; exact g9 rfl⟩
    have l2get : ∀ a, l2[a]? = if o ≤ a ∧ a < o + n then some (zs.map CV.v) else l[a]? := fun a => by
      show (wr l o (List.replicate n (zs.map CV.v)))[a]? = _
      rw [wr_get _ _ _ _ (by rw [List.length_replicate]; exact hko), List.length_replicate]
      split
      · rw [List.getElem?_replicate, if_pos (by omega)]
      · rfl
    have SY : SR Y := W.sr S M (fun e' h => by
      have : Y.H[id]? = some (.clo l2 false) := set_self hl
      rw [this] at h
      cases h
      refine ⟨fun e he => ?_, .inr ⟨b0, _, ty', fr, hb0, g2, a1, fun o ho => ?_, by rw [show (Y.σ id).sz = s from hsz]; simp only [List.size_toArray, wr_length, Array.length_toList]; exact g5, by rw [hl2]; exact g6, g7, (fun h => by cases h), g9, fun a j ha hj => ?_⟩⟩
      · obtain ⟨a, ha⟩ := List.getElem?_of_mem he
        rw [l2get] at ha
        show e.length = (X.σ id).sz
        rw [hsz]
        split at ha
        · cases ha
          simpa using hzl
        · exact hsl e (List.mem_of_getElem? ha)
      · have := g4 o (by simpa [wr_length] using ho)
        simp only [World.frozen?, g3] at this
        show World.frozen? (X.w.setCells b0 _ cs) _ = false
        simp only [World.frozen?, a1]
        exact this
      · rw [show (Y.σ id).sz = s from hsz] at hj ⊢
        rw [hl2] at ha
        simp only [List.getElem?_toArray]
        rw [wr_get _ _ _ _ (by simpa using hfit)]
        by_cases han : o ≤ a ∧ a < o + n
        · obtain ⟨q, rfl⟩ : ∃ q, a = o + q := ⟨a - o, by omega⟩
          obtain ⟨v, q1, q2⟩ := hcg q j (by omega) hj
          have hlt : q * s + j < n * s := by
            calc q * s + j < q * s + s := by omega
              _ = (q + 1) * s := by rw [Nat.add_mul, Nat.one_mul]
              _ ≤ n * s := Nat.mul_le_mul_right _ (by omega)
          rw [Nat.add_mul, if_pos (by omega)]
          refine ⟨v, ?_, zs.map CV.v, .v v, by rw [l2get, if_pos han], by rw [List.getElem?_map, q1]; rfl, .v _ (plainZ_one (hcm v (List.mem_of_getElem? q2)))⟩
          rw [show o * s + q * s + j - o * s = q * s + j by omega]
          exact q2
        · rw [if_neg (fun hk => by
            rw [hcl, ← Nat.add_mul] at hk
            rcases Nat.lt_or_ge a o with h | h
            · have : a * s + s ≤ o * s := by
                calc a * s + s = (a + 1) * s := by rw [Nat.add_mul, Nat.one_mul]
                  _ ≤ o * s := Nat.mul_le_mul_right _ (by omega)
              omega
            · have : (o + n) * s ≤ a * s := Nat.mul_le_mul_right _ (by omega)
              omega)]
          obtain ⟨v, hv, e1, x, q1, q2, q3⟩ := g10 a j ha hj
          exact ⟨v, by simpa using hv, e1, x, by rw [l2get, if_neg han]; exact q1, q2, W.rc S q3⟩) (fun b' h => .inl h)
    refine ⟨.tuple #[], Y, ?_, W.nxt S M SY, rfl, fun id' => ?_, hund Y⟩
    · rw [hsz]
      exact clear_run hu' hzr hn0 hcs.symm hstore
    · show X.D id' ↔ _
      rw [hD]; simp

end Go.Proofs.Vm
end
