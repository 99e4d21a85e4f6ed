/- Steps shared by the proofs of this seat's statements (part 2). -/
import Derived.Test.YtonkhpeahbjmmaaDoorK1
import Derived.Shelf.GgSortFunc.InsertionK
import Derived.Lib.Bytealg
import Derived.Shelf.Spec.TrailingZeros
import Derived.Test.YtonkhpeahbjmmaaDoorK0
import Derived.Deep.Slices
import Derived.ChangeArms
import Derived.ChangeSame
import Derived.SizedLaws
import Derived.WideShapes
import Derived.WalkKit
import Derived.ProofKit
import Derived.OpenShut
import Derived.ShutString
import Derived.ChangeOld
import Derived.Below
import Derived.Laws.BitsAllLaws
import Derived.Shelf.Small.Strs
import Derived.Shelf.Lays7
import Derived.Ground.Names7Prog
import Derived.Shelf.SlSortCmp.WholeK
import Derived.Ground.SlsfProg
import Derived.Test.YtonkhpeahbjmmaaDoorProg
import Derived.Shelf.SlSortCmp.NoneTotal
import Derived.Test.YtonkhpeahbjmmaaDoorRows
import Derived.LaidMore
section
/- What the library tells of items sorted by a function, and of strings compared. -/
namespace Go.Proofs.Vm
open Go

variable {P : Program}

abbrev Itm := ByteArray × Int
def encI (x : Itm) : List Value := [.string x.1, .int .i64 x.2]
def cItm (x : Itm) : List CV := [.v (.string x.1), .v (.int .i64 x.2)]
def itmOf : List CV → Option Itm
  | [.v (.string s), .v (.int .i64 n)] => some (s, n)
  | _ => none
def isort (cf : Itm → Itm → Int) (l : List Itm) : List Itm := l.mergeSort fun x y => decide (cf x y ≤ 0)

theorem mapO_itm : ∀ xs : List Itm, mapO itmOf (xs.map cItm) = some xs
  | [] => rfl
  | x :: xs => by
    rw [List.map_cons]
    simp only [mapO, mapO_itm xs]
    rfl
theorem mapO_itm_inv : ∀ {l : List (List CV)} {xs : List Itm}, mapO itmOf l = some xs → l = xs.map cItm
  | [], xs, h => by cases h; rfl
  | e :: l, xs, h => by
    simp only [mapO] at h
    split at h
    · rename_i y m h1 h2
      cases h
      rw [List.map_cons, mapO_itm_inv h2]
      congr 1
      unfold itmOf at h1
      split at h1
      · cases h1; rfl
      · cases h1
    · cases h

def sortFRun (go : FuncId) (cf : Itm → Itm → Int) (args : List AV) (H : Hp) : Option (AV × Hp) :=
  match args with
  | [.one (.sl id 0 n tot), .one (.fn g [])] => if g = go then match H[id]? with
    | some (.clo l false) => match mapO itmOf l with
      | some xs => if n = tot ∧ l.length = tot ∧ tot < 4611686018427387904 then some (und, H.set id (.clo ((isort cf xs).map cItm) false)) else none
      | none => none
    | _ => none
    else none
  | _ => none

def cmpB (a b : ByteArray) : Int := Lib.compareBytes a.data.toList b.data.toList
def cmpRun (args : List CA) : Option CA :=
  match args with
  | [.one (.v (.string a)), .one (.v (.string b))] => some (cI .i64 (cmpB a b))
  | _ => none

/-- A clone of an own slice of none, whether it is nil or not. -/
def clone0Run (args : List AV) (H : Hp) : Option (AV × Hp) :=
  match args with
  | [.one (.sl id 0 0 0)] => if lenIs H id 0 = true then some (.one (.sl (H.length + 1) 0 0 0), H ++ [.clo [] false, .clo [] false]) else none
  | _ => none
def itmTab (gs go gc gl : FuncId) (cf : Itm → Itm → Int) : Tab := ⟨fun f args => if f = gc then cmpRun args else none, fun f args H => if f = gs then sortFRun go cf args H else if f = gl then clone0Run args H else none⟩
/-- The same of a function's slices of none as they are. -/
def Clone0 (P : Program) (gl : FuncId) : Prop := ∀ (ad : Option Addr) (cap : Nat) (H : Hp), SCtr P gl [.one (.c (.v (.slice ad 0 cap)))] H (.one (.sl (H.length + 1) 0 0 0)) (H ++ [.clo [] false, .clo [] false])

def SortsF (P : Program) (gs go : FuncId) (cf : Itm → Itm → Int) : Prop := ∀ (blk off cap : Nat) (d : List Itm) (w : World), (∃ n, n ≤ blk ∧ n ≤ w.heap.size ∧ Tabs n w) → Sort.HoldsK encI 2 w blk off d.toArray → blk < w.heap.size → d.length < 4611686018427387904 →
  Calls P gs #[.slice (some ⟨blk, off, none⟩) d.length cap, .func (.func go) #[] #[]] w fun e w' => e = .returned (.tuple #[]) ∧ ∃ n os, w' = sortWorldK encI 2 w blk off n (isort cf d).toArray os
def SortsF0 (P : Program) (gs go : FuncId) : Prop := ∀ (p : Option Addr) (cap : Nat) (w : World), Calls P gs #[.slice p 0 cap, .func (.func go) #[] #[]] w fun e w' => e = .returned (.tuple #[]) ∧ w' = w
def CmpS (P : Program) (gc : FuncId) : Prop := ∀ (a b : ByteArray) (w : World), Calls P gc #[.string a, .string b] w fun e w' => e = .returned (.int .i64 (cmpB a b)) ∧ w' = w

def cmpTab (gc : FuncId) : Tab := ⟨fun f args => if f = gc then cmpRun args else none, fun _ _ _ => none⟩
theorem cmpPu_ok {gc : FuncId} (hfc : FnOk P gc) (hc : CmpS P gc) : PuOk P (cmpTab gc) := by
  intro f args r h
  simp only [cmpTab] at h
  split at h
  case isFalse => cases h
  rename_i hfg
  subst hfg
  unfold cmpRun at h
  split at h
  case h_2 => cases h
  rename_i a b
  cases h
  refine ⟨hfc, fun I w vals hI _ hv => ?_⟩
  have hl : vals.length = 2 := by rw [← hv.1]; rfl
  match vals, hl with
  | [x, y], _ =>
  have hx : RK I w (.one (.v (.string a))) x := hv.2 0 _ _ rfl rfl
  have hy : RK I w (.one (.v (.string b))) y := hv.2 1 _ _ rfl rfl
  have ex : x = .string a := by cases hx; rfl
  have ey : y = .string b := by cases hy; rfl
  subst ex; subst ey
  refine (hc a b w).mono fun e w' hh => ?_
  obtain ⟨rfl, rfl⟩ := hh
  exact ⟨_, I, rfl, fun _ h => h, fun _ h => .inl h, hI, Nat.le_refl _, fun _ _ => rfl, .refl _, .v _ rfl⟩
theorem cmpTab_ok {gc : FuncId} (hfc : FnOk P gc) (hc : CmpS P gc) : TOk P (cmpTab gc) := ⟨cmpPu_ok hfc hc, fun f args H r H' h => (by cases h)⟩

theorem flat_get (d : List Itm) (i j : Nat) (hi : i < d.length) (hj : j < 2) : (Sort.flatK encI 2 d.toArray)[i * 2 + j]! = (encI d[i])[j]'(by simpa [encI] using hj) := by
  rw [Sort.get_flatK _ _ _ _ (by simp; omega), show (i * 2 + j) / 2 = i by omega, show (i * 2 + j) % 2 = j by omega]
  have : d.toArray[i]! = d[i] := by simp [hi]
  rw [this, getElem!_pos (encI d[i]) j (by simpa [encI] using hj)]

theorem itmTab_ok {gs go gc gl : FuncId} {cf : Itm → Itm → Int} (hnc : isCl P gs = false) (hfc : FnOk P gc) (hc : CmpS P gc) (hf : FnOk P gs) (h1 : SortsF P gs go cf) (h2 : SortsF0 P gs go) (hfl : FnOk P gl) (h3 : Clone0 P gl) : TOk P (itmTab gs go gc gl cf) := by
  refine ⟨fun f args r h => cmpPu_ok hfc hc f args r h, fun f args H r H' h => ?_⟩
  simp only [itmTab] at h
  split at h
  case isFalse =>
    split at h
    case isFalse => cases h
    rename_i hfg
    subst hfg
    unfold clone0Run at h
    split at h
    case h_2 => cases h
    rename_i id
    split at h
    case isFalse => cases h
    rename_i hlen
    cases h
    refine ⟨by simp, hfl, ?_⟩
    intro X S M hX hD vals hv
    subst hX
    have hv1 : vals.length = 1 := by rw [← hv.1]; rfl
    match vals, hv1 with
    | [v], _ =>
    have hr : RCell X (.sl id 0 0 0) v := hv.2 0 _ v rfl rfl
    obtain ⟨h1', hd, e0, he0, _, _, hp⟩ := hr
    have hl0 : e0.len = 0 := by
      unfold lenIs at hlen
      rw [he0] at hlen
      simpa using hlen
    obtain ⟨ad, cap, rfl, _⟩ := hp hl0
    exact h3 ad cap X.H X S M rfl hD _ ⟨rfl, fun j p y hj hy => by
      cases j with
      | zero =>
        cases hj; cases hy
        exact .v _ h1'
      | succ j => cases hj⟩
  rename_i hfg
  subst hfg
  unfold sortFRun at h
  split at h
  case h_2 => cases h
  rename_i id n tot g
  split at h
  case isFalse => cases h
  rename_i hgg
  subst hgg
  split at h
  case h_2 => cases h
  rename_i l hl
  split at h
  case h_2 => cases h
  rename_i xs hxs
  split at h
  case isFalse => cases h
  rename_i hcc
  obtain ⟨rfl, hlt, hsz⟩ := hcc
  cases h
  have hlx := mapO_itm_inv hxs
  have hxl : xs.length = n := by rw [← hlt, hlx, List.length_map]
  refine ⟨⟨by simp, fun h => by rw [hnc] at h; cases h⟩, hf, ?_⟩
  intro X S M hX hD vals hv
  subst hX
  have hv1 : vals.length = 2 := by rw [← hv.1]; rfl
  match vals, hv1 with
  | [v, fv], _ =>
  have hr : RCell X (.sl id 0 n n) v := hv.2 0 _ v rfl rfl
  have hfv : RCell X (.fn g []) fv := hv.2 1 _ fv rfl rfl
  obtain ⟨vs, rfl, hvs, _⟩ := hfv
  have hvs0 : vs = [] := List.length_eq_zero_iff.1 hvs.symm
  subst hvs0
  obtain ⟨_, hd, e0, he0, _, _, hp⟩ := hr
  rw [hl] at he0
  cases he0
  obtain ⟨ad, cap, rfl, hcap, hne, _⟩ := hp hlt
  have hent := S.ent _ _ hd hl
  have hlen' : (isort cf xs).length = xs.length := List.length_mergeSort _
  have hylen : ((isort cf xs).map cItm).length = l.length := by rw [List.length_map, hlen', hlx, List.length_map]
  by_cases h0 : n = 0
  · subst h0
    have hxe : xs = [] := List.length_eq_zero_iff.1 hxl
    subst hxe
    refine (h2 ad cap X.w).mono fun e w' hh => ?_
    obtain ⟨rfl, rfl⟩ := hh
    refine ⟨_, X, rfl, rfl, .refl S M, ?_, fun id => by rw [hD]; simp, ⟨[], rfl, rfl, fun j p y hp => by simp at hp⟩⟩
    rw [isort, List.mergeSort_nil]
    simp only [List.map_nil] at hlx ⊢
    rw [hlx] at hl
    exact (set_same hl).symm
  · obtain ⟨b, hb, rfl⟩ := hne h0
    rcases hent.2 with ⟨h3, _⟩ | ⟨b', c, ty, fr, g1, g2, g3, g4, g5, g6, g7, g8, g9, g10⟩
    · exact absurd (hlt.symm.trans h3) h0
    rw [hb] at g1
    cases g1
    have hsz1 : (X.σ id).sz = 2 := by
      cases l with
      | nil => exact absurd hlt.symm h0
      | cons e l =>
        have := hent.1 e List.mem_cons_self
        cases xs with
        | nil => simp at hlx
        | cons x xs =>
          rw [List.map_cons] at hlx
          cases hlx
          exact this.symm
    rw [hsz1] at g5 g10
    have hblk := S.blk M id b hd hb
    have hcell : ∀ i j, ∀ hi : i < xs.length, ∀ hj : j < 2, c[i * 2 + j]? = some ((encI xs[i])[j]'(by simpa [encI] using hj)) := by
      intro i j hi hj
      obtain ⟨v, h3, e, x, h4, h5, h6⟩ := g10 i j (by omega) hj
      rw [hlx, List.getElem?_map, List.getElem?_eq_getElem hi] at h4
      cases h4
      rw [h3]
      match j, hj with
      | 0, _ => cases h5; cases h6; rfl
      | 1, _ => cases h5; cases h6; rfl
    have hH : Sort.HoldsK encI 2 X.w b 0 xs.toArray := by
      intro j hj
      have hj : j < xs.length * 2 := by simpa using hj
      have hc1 := hcell (j / 2) (j % 2) (by omega) (by omega)
      have hf1 := flat_get xs (j / 2) (j % 2) (by omega) (by omega)
      rw [show j / 2 * 2 + j % 2 = j by omega] at hc1 hf1
      refine ⟨?_, g4 _ ?_⟩
      · unfold World.cell?
        simp only [g3]
        rw [if_neg (by simp), Nat.zero_add, hc1, hf1]
        rfl
      · have := (Array.getElem?_eq_some_iff.1 hc1).1
        omega
    rw [Nat.zero_mul, ← hxl]
    refine (h1 b 0 cap xs X.w ⟨X.base, g7, S.size, S.tab.mono S.old (Nat.le_refl _)⟩ hH hblk.1 (by omega)).mono fun e w' hh => ?_
    obtain ⟨rfl, m, os, rfl⟩ := hh
    generalize hys : isort cf xs = ys at hlen' hylen
    let F := Sort.flatK encI 2 ys.toArray
    have hFs : F.size = ys.length * 2 := by simp [F]
    let w' := sortWorldK encI 2 X.w b 0 m ys.toArray os
    have hms : (X.w.heap.modify b (Sort.onCells (Sort.putCells _root_.id 0 F))).size = X.w.heap.size := by simp
    have hheap : ∀ k, k < X.w.heap.size → w'.heap[k]? = (X.w.heap.modify b (Sort.onCells (Sort.putCells _root_.id 0 F)))[k]? := by
      intro k hk
      show (X.w.heap.modify b _ ++ os)[k]? = _
      rw [Array.getElem?_append_left (by simpa using hk)]
    have hself : w'.heap[b]? = some (.cells (Sort.putCells _root_.id 0 F c) ty fr) := by
      rw [hheap b hblk.1, Array.getElem?_modify, if_pos rfl, g3]
      rfl
    have hoth : ∀ k, k < X.w.heap.size → k ≠ b → w'.heap[k]? = X.w.heap[k]? := by
      intro k hk hkb
      rw [hheap k hk, Array.getElem?_modify, if_neg (fun e => hkb e.symm)]
    let Y : Cx := { X with H := X.H.set id (.clo (ys.map cItm) false), w := w' }
    have W : Wrote X Y id := ⟨rfl, rfl, fun _ => Iff.rfl, fun _ _ _ => rfl, rfl, fun i hi => set_get hi, by
      show X.w.heap.size ≤ (X.w.heap.modify b _ ++ os).size
      rw [Array.size_append, Array.size_modify]
      exact Nat.le_add_right _ _, fun k hk hkb => hoth k hk (hkb b hb), ⟨_, _, hl, set_self hl, by simp only [Ent.len]; omega, fun _ => rfl, fun l h => by cases h⟩, hd, ⟨⟨rfl, rfl⟩, rfl, Nat.le_add_right _ _⟩, fun k hk => by rw [hb] at hk; cases hk; exact g9 rfl⟩
    have SY : SR Y := W.sr S M (fun e h => by
      have : Y.H[id]? = some (.clo (ys.map cItm) false) := set_self hl
      rw [this] at h
      cases h
      refine ⟨fun e he => ?_, .inr ⟨b, _, ty, fr, hb, g2, hself, fun o ho => ?_, ?_, by rw [hylen]; exact g6, g7, (fun h => by cases h), g9, fun i j hi hj => ?_⟩⟩
      · obtain ⟨y, _, rfl⟩ := List.mem_map.1 he
        show 2 = (X.σ id).sz
        rw [hsz1]
      · have := g4 o (by simpa [Sort.putCells] using ho)
        unfold World.frozen? at this ⊢
        rw [g3] at this
        rw [hself]
        exact this
      · show (Sort.putCells _root_.id 0 F c).size = (X.σ id).cap * (X.σ id).sz
        rw [hsz1, ← g5]
        simp [Sort.putCells]
      · have hj : j < (X.σ id).sz := hj
        rw [hsz1] at hj
        have hi' : i < ys.length := by simpa using hi
        have hic : i * 2 + j < c.size := by rw [g5]; have := g6.2; rw [hylen] at hi; omega
        have hfg := flat_get ys i j hi' hj
        refine ⟨(encI ys[i])[j]'(by simpa [encI] using hj), ?_, cItm ys[i], .v ((encI ys[i])[j]'(by simpa [encI] using hj)), by rw [List.getElem?_map, List.getElem?_eq_getElem hi']; rfl, ?_, ?_⟩
        · show (Sort.putCells _root_.id 0 F c)[i * (X.σ id).sz + j]? = _
          rw [hsz1, Sort.putCells, Array.getElem?_mapIdx, Array.getElem?_eq_getElem hic, Option.map_some, if_pos ⟨Nat.zero_le _, by rw [hFs]; omega⟩]
          show some (_root_.id F[i * 2 + j - 0]!) = _
          rw [Nat.sub_zero, hfg]
          rfl
        · match j, hj with
          | 0, _ => rfl
          | 1, _ => rfl
        · match j, hj with
          | 0, _ => exact .v _ rfl
          | 1, _ => exact .v _ rfl) (fun b' h => .inl h)
    exact ⟨_, Y, rfl, rfl, W.nxt S M SY, rfl, fun id => by rw [show Y.D = X.D from rfl, hD]; simp, ⟨[], rfl, rfl, fun j p y hp => by simp at hp⟩⟩

end Go.Proofs.Vm
end

section
/- How items stand: the greater count first, of one count the lesser key. -/
namespace Go.Proofs.Vm
open Go

def cmpI (x y : Int) : Int := if x < y then -1 else if x > y then 1 else 0
def ordI (a b : Itm) : Int := if cmpI b.2 a.2 ≠ 0 then cmpI b.2 a.2 else cmpB a.1 b.1

theorem cb_eq : ∀ a b : List UInt8, Lib.compareBytes a b = 0 ↔ a = b
  | [], [] => by simp [Lib.compareBytes]
  | [], _ :: _ => by simp [Lib.compareBytes]
  | _ :: _, [] => by simp [Lib.compareBytes]
  | a :: ar, b :: br => by
    unfold Lib.compareBytes
    by_cases h1 : a < b
    · rw [if_pos h1]
      refine ⟨fun h => absurd h (by decide), fun h => ?_⟩
      cases h
      exact absurd h1 (UInt8.lt_irrefl _)
    · rw [if_neg h1]
      by_cases h2 : b < a
      · rw [if_pos h2]
        refine ⟨fun h => absurd h (by decide), fun h => ?_⟩
        cases h
        exact absurd h2 (UInt8.lt_irrefl _)
      · rw [if_neg h2, cb_eq ar br]
        have : a = b := UInt8.le_antisymm (UInt8.not_lt.1 h2) (UInt8.not_lt.1 h1)
        subst this
        simp
theorem cb_neg : ∀ a b : List UInt8, Lib.compareBytes b a = - Lib.compareBytes a b
  | [], [] => by simp [Lib.compareBytes]
  | [], _ :: _ => by simp [Lib.compareBytes]
  | _ :: _, [] => by simp [Lib.compareBytes]
  | a :: ar, b :: br => by
    unfold Lib.compareBytes
    by_cases h1 : a < b
    · rw [if_neg (UInt8.lt_asymm h1), if_pos h1, if_pos h1]; rfl
    · rw [if_neg h1, if_neg h1]
      by_cases h2 : b < a
      · rw [if_pos h2, if_pos h2]
      · rw [if_neg h2, if_neg h2]
        exact cb_neg ar br
theorem cb_trans : ∀ a b c : List UInt8, Lib.compareBytes a b < 0 → Lib.compareBytes b c < 0 → Lib.compareBytes a c < 0
  | [], _, [], h1, h2 => by
    rename_i b
    cases b with
    | nil => simp [Lib.compareBytes] at h1
    | cons x b => simp [Lib.compareBytes] at h2
  | [], _, _ :: _, _, _ => by simp [Lib.compareBytes]
  | _ :: _, [], _, h1, _ => by simp [Lib.compareBytes] at h1
  | _ :: _, _ :: _, [], _, h2 => by simp [Lib.compareBytes] at h2
  | a :: ar, b :: br, c :: cr, h1, h2 => by
    unfold Lib.compareBytes at h1 h2 ⊢
    by_cases a1 : a < b
    · by_cases b1 : b < c
      · rw [if_pos (UInt8.lt_trans a1 b1)]; decide
      · rw [if_neg b1] at h2
        by_cases b2 : c < b
        · rw [if_pos b2] at h2; exact absurd h2 (by decide)
        · have : b = c := UInt8.le_antisymm (UInt8.not_lt.1 b2) (UInt8.not_lt.1 b1)
          subst this
          rw [if_pos a1]; decide
    · rw [if_neg a1] at h1
      by_cases a2 : b < a
      · rw [if_pos a2] at h1; exact absurd h1 (by decide)
      · have : a = b := UInt8.le_antisymm (UInt8.not_lt.1 a2) (UInt8.not_lt.1 a1)
        subst this
        rw [if_neg (UInt8.lt_irrefl _)] at h1
        by_cases b1 : a < c
        · rw [if_pos b1]; decide
        · rw [if_neg b1] at h2 ⊢
          by_cases b2 : c < a
          · rw [if_pos b2] at h2; exact absurd h2 (by decide)
          · rw [if_neg b2] at h2 ⊢
            exact cb_trans ar br cr (by simpa using h1) h2

theorem cmpB_eq {a b : ByteArray} : cmpB a b = 0 ↔ a = b := by
  unfold cmpB
  rw [cb_eq]
  constructor
  · intro h
    have := Array.toList_inj.1 h
    cases a; cases b; simp_all
  · intro h; rw [h]
theorem cmpB_neg (a b : ByteArray) : cmpB b a = - cmpB a b := cb_neg _ _
theorem cmpI_neg (x y : Int) : cmpI y x = - cmpI x y := by
  unfold cmpI; split <;> split <;> (try split) <;> omega
theorem ordI_neg (a b : Itm) : ordI b a = - ordI a b := by
  unfold ordI
  rw [cmpI_neg b.2 a.2, cmpB_neg a.1 b.1]
  split <;> split <;> omega
theorem ordI_eq {a b : Itm} : ordI a b = 0 ↔ a = b := by
  unfold ordI
  constructor
  · intro h
    split at h
    · contradiction
    · rename_i h1
      have h2 : cmpI b.2 a.2 = 0 := by omega
      have h3 : b.2 = a.2 := by unfold cmpI at h2; split at h2; · omega
                                split at h2 <;> omega
      exact Prod.ext (cmpB_eq.1 h) h3.symm
  · intro h
    subst h
    have : cmpI a.2 a.2 = 0 := by unfold cmpI; rw [if_neg (by omega), if_neg (by omega)]
    rw [this]
    simp only [ne_eq, not_true_eq_false, if_false]
    exact cmpB_eq.2 rfl
/-- One stands ahead of another. -/
theorem ordI_lt {a b : Itm} : ordI a b < 0 ↔ b.2 < a.2 ∨ b.2 = a.2 ∧ cmpB a.1 b.1 < 0 := by
  unfold ordI cmpI
  by_cases h1 : b.2 < a.2
  · simp [h1]
  · by_cases h2 : b.2 > a.2
    · rw [if_neg h1, if_pos h2]
      simp; omega
    · rw [if_neg h1, if_neg h2]
      have : b.2 = a.2 := by omega
      simp [this]
theorem ordI_trans {a b c : Itm} (h1 : ordI a b < 0) (h2 : ordI b c < 0) : ordI a c < 0 := by
  rw [ordI_lt] at *
  rcases h1 with h1 | ⟨h1, k1⟩
  · rcases h2 with h2 | ⟨h2, _⟩
    · left; omega
    · left; omega
  · rcases h2 with h2 | ⟨h2, k2⟩
    · left; omega
    · right
      exact ⟨by omega, cb_trans _ _ _ k1 k2⟩
theorem ordI_le_trans (a b c : Itm) (h1 : ordI a b ≤ 0) (h2 : ordI b c ≤ 0) : ordI a c ≤ 0 := by
  by_cases e1 : ordI a b = 0
  · rw [ordI_eq] at e1; subst e1; exact h2
  · by_cases e2 : ordI b c = 0
    · rw [ordI_eq] at e2; subst e2; exact h1
    · have := ordI_trans (show ordI a b < 0 by omega) (show ordI b c < 0 by omega)
      omega
theorem ordI_total (a b : Itm) : ordI a b ≤ 0 ∨ ordI b a ≤ 0 := by
  have := ordI_neg a b
  omega

theorem bl_cb : ∀ a b : List UInt8, Op.bytesLess a b = decide (Lib.compareBytes a b < 0)
  | [], [] => by simp [Op.bytesLess, Lib.compareBytes]
  | _ :: _, [] => by simp [Op.bytesLess, Lib.compareBytes]
  | [], _ :: _ => by simp [Op.bytesLess, Lib.compareBytes]
  | a :: x, b :: y => by
    unfold Op.bytesLess Lib.compareBytes
    by_cases h1 : a < b
    · simp [h1]
    · by_cases h2 : b < a
      · have : ¬ a = b := fun e => by subst e; exact absurd h2 (UInt8.lt_irrefl _)
        simp [h1, h2, this]
      · have : a = b := UInt8.le_antisymm (UInt8.not_lt.1 h2) (UInt8.not_lt.1 h1)
        subst this
        simp [h1, bl_cb x y]
theorem bl_cmpB (a b : ByteArray) : Op.bytesLess a.toList b.toList = decide (cmpB a b < 0) := by
  rw [bl_cb, toList_eq, toList_eq]; rfl

end Go.Proofs.Vm
end

section
/- A table of two; numbers' trailing noughts; items sorted by a function, and strings compared. -/
namespace Go.Proofs.Vm
open Go

variable {P : Program}

def orTab (A B : Tab) : Tab := ⟨fun f a => match A.pu f a with | some r => some r | none => B.pu f a, fun f a H => match A.S f a H with | some r => some r | none => B.S f a H⟩
theorem orTab_ok {A B : Tab} (hA : TOk P A) (hB : TOk P B) : TOk P (orTab A B) := by
  refine ⟨fun f args r h => ?_, fun f args H r H' h => ?_⟩
  · simp only [orTab] at h
    split at h
    · rename_i x hx; cases h; exact hA.1 _ _ _ hx
    · exact hB.1 _ _ _ h
  · simp only [orTab] at h
    split at h
    · rename_i x hx; cases h; exact hA.2 _ _ _ _ _ hx
    · exact hB.2 _ _ _ _ _ h

def tzRun (args : List CA) : Option CA :=
  match args with
  | [.one (.v (.int .u64 x))] => if 0 ≤ x ∧ x < 18446744073709551616 then some (cI .i64 (Lib.ctz 64 x.toNat)) else none
  | _ => none
def tzTab (gt : FuncId) : Tab := ⟨fun f args => if f = gt then tzRun args else none, fun _ _ _ => none⟩
def TzS (P : Program) (gt : FuncId) : Prop := ∀ (x : Nat) (w : World), x < 18446744073709551616 → Tabs w.heap.size w → Calls P gt #[.int .u64 x] w fun e w' => e = .returned (.int .i64 (Lib.ctz 64 x)) ∧ w' = w
theorem tzTab_ok {gt : FuncId} (hf : FnOk P gt) (ht : TzS P gt) : TOk P (tzTab gt) := by
  refine ⟨fun f args r h => ?_, fun f args H r H' h => (by cases h)⟩
  simp only [tzTab] at h
  split at h
  case isFalse => cases h
  rename_i hfg
  subst hfg
  unfold tzRun at h
  split at h
  case h_2 => cases h
  rename_i x
  split at h
  case isFalse => cases h
  rename_i hx
  cases h
  obtain ⟨n, rfl⟩ := Int.eq_ofNat_of_zero_le hx.1
  refine ⟨hf, fun I w vals hI hT hv => ?_⟩
  have hl : vals.length = 1 := by rw [← hv.1]; rfl
  match vals, hl with
  | [v], _ =>
  have hv0 : RK I w (.one (.v (.int .u64 n))) v := hv.2 0 _ _ rfl rfl
  have ev : v = .int .u64 n := by cases hv0; rfl
  subst ev
  refine (ht n w (by omega) hT).mono fun e w' hh => ?_
  obtain ⟨rfl, rfl⟩ := hh
  exact ⟨_, I, rfl, fun _ h => h, fun _ h => .inl h, hI, Nat.le_refl _, fun _ _ => rfl, .refl _, .v _ rfl⟩

def srtTab (gs go gc : FuncId) (cf : Itm → Itm → Int) : Tab := ⟨fun f args => if f = gc then cmpRun args else none, fun f args H => if f = gs then sortFRun go cf args H else none⟩
theorem srtTab_ok {gs go gc : FuncId} {cf : Itm → Itm → Int} (hnc : isCl P gs = false) (hfc : FnOk P gc) (hc : CmpS P gc) (hf : FnOk P gs) (h1 : SortsF P gs go cf) (h2 : SortsF0 P gs go) : TOk P (srtTab gs go gc cf) := by
  refine ⟨fun f args r h => cmpPu_ok hfc hc f args r h, fun f args H r H' h => ?_⟩
  simp only [srtTab] at h
  split at h
  case isFalse => cases h
  rename_i hfg
  subst hfg
  unfold sortFRun at h
  split at h
  case h_2 => cases h
  rename_i id n tot g
  split at h
  case isFalse => cases h
  rename_i hgg
  subst hgg
  split at h
  case h_2 => cases h
  rename_i l hl
  split at h
  case h_2 => cases h
  rename_i xs hxs
  split at h
  case isFalse => cases h
  rename_i hcc
  obtain ⟨rfl, hlt, hsz⟩ := hcc
  cases h
  have hlx := mapO_itm_inv hxs
  have hxl : xs.length = n := by rw [← hlt, hlx, List.length_map]
  refine ⟨⟨by simp, fun h => by rw [hnc] at h; cases h⟩, hf, ?_⟩
  intro X S M hX hD vals hv
  subst hX
  have hv1 : vals.length = 2 := by rw [← hv.1]; rfl
  match vals, hv1 with
  | [v, fv], _ =>
  have hr : RCell X (.sl id 0 n n) v := hv.2 0 _ v rfl rfl
  have hfv : RCell X (.fn g []) fv := hv.2 1 _ fv rfl rfl
  obtain ⟨vs, rfl, hvs, _⟩ := hfv
  have hvs0 : vs = [] := List.length_eq_zero_iff.1 hvs.symm
  subst hvs0
  obtain ⟨_, hd, e0, he0, _, _, hp⟩ := hr
  rw [hl] at he0
  cases he0
  obtain ⟨ad, cap, rfl, hcap, hne, _⟩ := hp hlt
  have hent := S.ent _ _ hd hl
  have hlen' : (isort cf xs).length = xs.length := List.length_mergeSort _
  have hylen : ((isort cf xs).map cItm).length = l.length := by rw [List.length_map, hlen', hlx, List.length_map]
  by_cases h0 : n = 0
  · subst h0
    have hxe : xs = [] := List.length_eq_zero_iff.1 hxl
    subst hxe
    refine (h2 ad cap X.w).mono fun e w' hh => ?_
    obtain ⟨rfl, rfl⟩ := hh
    refine ⟨_, X, rfl, rfl, .refl S M, ?_, fun id => by rw [hD]; simp, ⟨[], rfl, rfl, fun j p y hp => by simp at hp⟩⟩
    rw [isort, List.mergeSort_nil]
    simp only [List.map_nil] at hlx ⊢
    rw [hlx] at hl
    exact (set_same hl).symm
  · obtain ⟨b, hb, rfl⟩ := hne h0
    rcases hent.2 with ⟨h3, _⟩ | ⟨b', c, ty, fr, g1, g2, g3, g4, g5, g6, g7, g8, g9, g10⟩
    · exact absurd (hlt.symm.trans h3) h0
    rw [hb] at g1
    cases g1
    have hsz1 : (X.σ id).sz = 2 := by
      cases l with
      | nil => exact absurd hlt.symm h0
      | cons e l =>
        have := hent.1 e List.mem_cons_self
        cases xs with
        | nil => simp at hlx
        | cons x xs =>
          rw [List.map_cons] at hlx
          cases hlx
          exact this.symm
    rw [hsz1] at g5 g10
    have hblk := S.blk M id b hd hb
    have hcell : ∀ i j, ∀ hi : i < xs.length, ∀ hj : j < 2, c[i * 2 + j]? = some ((encI xs[i])[j]'(by simpa [encI] using hj)) := by
      intro i j hi hj
      obtain ⟨v, h3, e, x, h4, h5, h6⟩ := g10 i j (by omega) hj
      rw [hlx, List.getElem?_map, List.getElem?_eq_getElem hi] at h4
      cases h4
      rw [h3]
      match j, hj with
      | 0, _ => cases h5; cases h6; rfl
      | 1, _ => cases h5; cases h6; rfl
    have hH : Sort.HoldsK encI 2 X.w b 0 xs.toArray := by
      intro j hj
      have hj : j < xs.length * 2 := by simpa using hj
      have hc1 := hcell (j / 2) (j % 2) (by omega) (by omega)
      have hf1 := flat_get xs (j / 2) (j % 2) (by omega) (by omega)
      rw [show j / 2 * 2 + j % 2 = j by omega] at hc1 hf1
      refine ⟨?_, g4 _ ?_⟩
      · unfold World.cell?
        simp only [g3]
        rw [if_neg (by simp), Nat.zero_add, hc1, hf1]
        rfl
      · have := (Array.getElem?_eq_some_iff.1 hc1).1
        omega
    rw [Nat.zero_mul, ← hxl]
    refine (h1 b 0 cap xs X.w ⟨X.base, g7, S.size, S.tab.mono S.old (Nat.le_refl _)⟩ hH hblk.1 (by omega)).mono fun e w' hh => ?_
    obtain ⟨rfl, m, os, rfl⟩ := hh
    generalize hys : isort cf xs = ys at hlen' hylen
    let F := Sort.flatK encI 2 ys.toArray
    have hFs : F.size = ys.length * 2 := by simp [F]
    let w' := sortWorldK encI 2 X.w b 0 m ys.toArray os
    have hms : (X.w.heap.modify b (Sort.onCells (Sort.putCells _root_.id 0 F))).size = X.w.heap.size := by simp
    have hheap : ∀ k, k < X.w.heap.size → w'.heap[k]? = (X.w.heap.modify b (Sort.onCells (Sort.putCells _root_.id 0 F)))[k]? := by
      intro k hk
      show (X.w.heap.modify b _ ++ os)[k]? = _
      rw [Array.getElem?_append_left (by simpa using hk)]
    have hself : w'.heap[b]? = some (.cells (Sort.putCells _root_.id 0 F c) ty fr) := by
      rw [hheap b hblk.1, Array.getElem?_modify, if_pos rfl, g3]
      rfl
    have hoth : ∀ k, k < X.w.heap.size → k ≠ b → w'.heap[k]? = X.w.heap[k]? := by
      intro k hk hkb
      rw [hheap k hk, Array.getElem?_modify, if_neg (fun e => hkb e.symm)]
    let Y : Cx := { X with H := X.H.set id (.clo (ys.map cItm) false), w := w' }
    have W : Wrote X Y id := ⟨rfl, rfl, fun _ => Iff.rfl, fun _ _ _ => rfl, rfl, fun i hi => set_get hi, by
      show X.w.heap.size ≤ (X.w.heap.modify b _ ++ os).size
      rw [Array.size_append, Array.size_modify]
      exact Nat.le_add_right _ _, fun k hk hkb => hoth k hk (hkb b hb), ⟨_, _, hl, set_self hl, by simp only [Ent.len]; omega, fun _ => rfl, fun l h => by cases h⟩, hd, ⟨⟨rfl, rfl⟩, rfl, Nat.le_add_right _ _⟩, fun k hk => by rw [hb] at hk; cases hk; exact g9 rfl⟩
    have SY : SR Y := W.sr S M (fun e h => by
      have : Y.H[id]? = some (.clo (ys.map cItm) false) := set_self hl
      rw [this] at h
      cases h
      refine ⟨fun e he => ?_, .inr ⟨b, _, ty, fr, hb, g2, hself, fun o ho => ?_, ?_, by rw [hylen]; exact g6, g7, (fun h => by cases h), g9, fun i j hi hj => ?_⟩⟩
      · obtain ⟨y, _, rfl⟩ := List.mem_map.1 he
        show 2 = (X.σ id).sz
        rw [hsz1]
      · have := g4 o (by simpa [Sort.putCells] using ho)
        unfold World.frozen? at this ⊢
        rw [g3] at this
        rw [hself]
        exact this
      · show (Sort.putCells _root_.id 0 F c).size = (X.σ id).cap * (X.σ id).sz
        rw [hsz1, ← g5]
        simp [Sort.putCells]
      · have hj : j < (X.σ id).sz := hj
        rw [hsz1] at hj
        have hi' : i < ys.length := by simpa using hi
        have hic : i * 2 + j < c.size := by rw [g5]; have := g6.2; rw [hylen] at hi; omega
        have hfg := flat_get ys i j hi' hj
        refine ⟨(encI ys[i])[j]'(by simpa [encI] using hj), ?_, cItm ys[i], .v ((encI ys[i])[j]'(by simpa [encI] using hj)), by rw [List.getElem?_map, List.getElem?_eq_getElem hi']; rfl, ?_, ?_⟩
        · show (Sort.putCells _root_.id 0 F c)[i * (X.σ id).sz + j]? = _
          rw [hsz1, Sort.putCells, Array.getElem?_mapIdx, Array.getElem?_eq_getElem hic, Option.map_some, if_pos ⟨Nat.zero_le _, by rw [hFs]; omega⟩]
          show some (_root_.id F[i * 2 + j - 0]!) = _
          rw [Nat.sub_zero, hfg]
          rfl
        · match j, hj with
          | 0, _ => rfl
          | 1, _ => rfl
        · match j, hj with
          | 0, _ => exact .v _ rfl
          | 1, _ => exact .v _ rfl) (fun b' h => .inl h)
    exact ⟨_, Y, rfl, rfl, W.nxt S M SY, rfl, fun id => by rw [show Y.D = X.D from rfl, hD]; simp, ⟨[], rfl, rfl, fun j p y hp => by simp at hp⟩⟩

end Go.Proofs.Vm
end

section
/- Each function's run over the program's whole table. -/
namespace Go.Proofs.YtonkhpeahbjmmaaDoorF
open Go Go.Proofs.Vm
def shF (g : FuncId) : Bool := g == 27 || g == 30 || g == 56 || g == 57 || g == 32
def neF (g : FuncId) : Bool := g == 12 || g == 29
def cfg : Cfg := ⟨shF, neF, orTab (tzTab 51) (srtTab 32 33 36 ordI)⟩
noncomputable def TV : Tab := TT Tryd.prog cfg
@[simp] theorem sh32 : shF 32 = true := by decide
@[simp] theorem sh3 : shF 3 = false := by decide
theorem run3 {args : List CA} {r : CA} (hl : args.length ≤ 100) (h : wpV Tryd.prog TV ⟨100, shF, false⟩ (Tryd.f3.body.getD .skip) (endK Tryd.prog Tryd.f3.results.toList r) ⟨env0 args, []⟩) : TV.pu 3 args = some r := TT_go (N := ⟨100, shF, false⟩) Tryd.func3 (by kernel_rfl) ok3 (by kernel_rfl) (by kernel_rfl) (fun _ => rfl) hl h -- rillmeter/rillmeterlaw19.SpreadTurns
@[simp] theorem sh4 : shF 4 = false := by decide
theorem run4 {args : List CA} {r : CA} (hl : args.length ≤ 132) (h : wpV Tryd.prog TV ⟨132, shF, false⟩ (Tryd.f4.body.getD .skip) (endK Tryd.prog Tryd.f4.results.toList r) ⟨env0 args, []⟩) : TV.pu 4 args = some r := TT_go (N := ⟨132, shF, false⟩) Tryd.func4 (by kernel_rfl) ok4 (by kernel_rfl) (by kernel_rfl) (fun _ => rfl) hl h -- rillmeter/rillmeterlaw19.SpreadNews
@[simp] theorem sh5 : shF 5 = false := by decide
theorem run5 {args : List CA} {r : CA} (hl : args.length ≤ 110) (h : wpV Tryd.prog TV ⟨110, shF, false⟩ (Tryd.f5.body.getD .skip) (endK Tryd.prog Tryd.f5.results.toList r) ⟨env0 args, []⟩) : TV.pu 5 args = some r := TT_go (N := ⟨110, shF, false⟩) Tryd.func5 (by kernel_rfl) ok5 (by kernel_rfl) (by kernel_rfl) (fun _ => rfl) hl h -- rillmeter/rillmeterlaw19.SpreadSeen
@[simp] theorem sh6 : shF 6 = false := by decide
theorem run6 {args : List CA} {r : CA} (hl : args.length ≤ 116) (h : wpV Tryd.prog TV ⟨116, shF, false⟩ (Tryd.f6.body.getD .skip) (endK Tryd.prog Tryd.f6.results.toList r) ⟨env0 args, []⟩) : TV.pu 6 args = some r := TT_go (N := ⟨116, shF, false⟩) Tryd.func6 (by kernel_rfl) ok6 (by kernel_rfl) (by kernel_rfl) (fun _ => rfl) hl h -- rillmeter/rillmeterlaw19.SpreadLeast
@[simp] theorem sh7 : shF 7 = false := by decide
theorem run7 {args : List CA} {r : CA} (hl : args.length ≤ 126) (h : wpV Tryd.prog TV ⟨126, shF, false⟩ (Tryd.f7.body.getD .skip) (endK Tryd.prog Tryd.f7.results.toList r) ⟨env0 args, []⟩) : TV.pu 7 args = some r := TT_go (N := ⟨126, shF, false⟩) Tryd.func7 (by kernel_rfl) ok7 (by kernel_rfl) (by kernel_rfl) (fun _ => rfl) hl h -- rillmeter/rillmeterlaw19.SpreadAlone
@[simp] theorem sh8 : shF 8 = false := by decide
theorem run8 {args : List CA} {r : CA} (hl : args.length ≤ 101) (h : wpV Tryd.prog TV ⟨101, shF, false⟩ (Tryd.f8.body.getD .skip) (endK Tryd.prog Tryd.f8.results.toList r) ⟨env0 args, []⟩) : TV.pu 8 args = some r := TT_go (N := ⟨101, shF, false⟩) Tryd.func8 (by kernel_rfl) ok8 (by kernel_rfl) (by kernel_rfl) (fun _ => rfl) hl h -- rillmeter/rillmeterlaw19.SpreadOrder
@[simp] theorem sh9 : shF 9 = false := by decide
theorem run9 {args : List CA} {r : CA} (hl : args.length ≤ 44) (h : wpV Tryd.prog TV ⟨44, shF, false⟩ (Tryd.f9.body.getD .skip) (endK Tryd.prog Tryd.f9.results.toList r) ⟨env0 args, []⟩) : TV.pu 9 args = some r := TT_go (N := ⟨44, shF, false⟩) Tryd.func9 (by kernel_rfl) ok9 (by kernel_rfl) (by kernel_rfl) (fun _ => rfl) hl h -- rillmeter/rillmeterlaw19.ref
@[simp] theorem sh10 : shF 10 = false := by decide
theorem run10 {args : List CA} {r : CA} (hl : args.length ≤ 60) (h : wpV Tryd.prog TV ⟨60, shF, false⟩ (Tryd.f10.body.getD .skip) (endK Tryd.prog Tryd.f10.results.toList r) ⟨env0 args, []⟩) : TV.pu 10 args = some r := TT_go (N := ⟨60, shF, false⟩) Tryd.func10 (by kernel_rfl) ok10 (by kernel_rfl) (by kernel_rfl) (fun _ => rfl) hl h -- rillmeter/rillmeterref19.Small
@[simp] theorem sh11 : shF 11 = false := by decide
theorem run11 {args : List CA} {r : CA} (hl : args.length ≤ 32) (h : wpV Tryd.prog TV ⟨32, shF, false⟩ (Tryd.f11.body.getD .skip) (endK Tryd.prog Tryd.f11.results.toList r) ⟨env0 args, []⟩) : TV.pu 11 args = some r := TT_go (N := ⟨32, shF, false⟩) Tryd.func11 (by kernel_rfl) ok11 (by kernel_rfl) (by kernel_rfl) (fun _ => rfl) hl h -- rillmeter/rillmeterlaw19.awake
@[simp] theorem sh12 : shF 12 = false := by decide
theorem run12 {args : List CA} {r : CA} (hl : args.length ≤ 83) (h : wpV Tryd.prog TV ⟨83, shF, true⟩ (Tryd.f12.body.getD .skip) (endK Tryd.prog Tryd.f12.results.toList r) ⟨env0 args, []⟩) : TV.pu 12 args = some r := TT_go (N := ⟨83, shF, true⟩) Tryd.func12 (by kernel_rfl) ok12 (by kernel_rfl) (by kernel_rfl) (fun _ => rfl) hl h -- rillmeter/spread.Add
@[simp] theorem sh13 : shF 13 = false := by decide
theorem run13 {args : List CA} {r : CA} (hl : args.length ≤ 44) (h : wpV Tryd.prog TV ⟨44, shF, false⟩ (Tryd.f13.body.getD .skip) (endK Tryd.prog Tryd.f13.results.toList r) ⟨env0 args, []⟩) : TV.pu 13 args = some r := TT_go (N := ⟨44, shF, false⟩) Tryd.func13 (by kernel_rfl) ok13 (by kernel_rfl) (by kernel_rfl) (fun _ => rfl) hl h -- rillmeter/spread.Estimate
@[simp] theorem sh14 : shF 14 = false := by decide
theorem run14 {args : List CA} {r : CA} (hl : args.length ≤ 63) (h : wpV Tryd.prog TV ⟨63, shF, false⟩ (Tryd.f14.body.getD .skip) (endK Tryd.prog Tryd.f14.results.toList r) ⟨env0 args, []⟩) : TV.pu 14 args = some r := TT_go (N := ⟨63, shF, false⟩) Tryd.func14 (by kernel_rfl) ok14 (by kernel_rfl) (by kernel_rfl) (fun _ => rfl) hl h -- rillmeter/spread.List
@[simp] theorem sh15 : shF 15 = false := by decide
theorem run15 {args : List CA} {r : CA} (hl : args.length ≤ 125) (h : wpV Tryd.prog TV ⟨125, shF, false⟩ (Tryd.f15.body.getD .skip) (endK Tryd.prog Tryd.f15.results.toList r) ⟨env0 args, []⟩) : TV.pu 15 args = some r := TT_go (N := ⟨125, shF, false⟩) Tryd.func15 (by kernel_rfl) ok15 (by kernel_rfl) (by kernel_rfl) (fun _ => rfl) hl h -- rillmeter/rillmeterref19.Right
@[simp] theorem sh16 : shF 16 = false := by decide
theorem run16 {args : List CA} {r : CA} (hl : args.length ≤ 127) (h : wpV Tryd.prog TV ⟨127, shF, false⟩ (Tryd.f16.body.getD .skip) (endK Tryd.prog Tryd.f16.results.toList r) ⟨env0 args, []⟩) : TV.pu 16 args = some r := TT_go (N := ⟨127, shF, false⟩) Tryd.func16 (by kernel_rfl) ok16 (by kernel_rfl) (by kernel_rfl) (fun _ => rfl) hl h -- rillmeter/spread.Right
@[simp] theorem sh17 : shF 17 = false := by decide
theorem run17 {args : List CA} {r : CA} (hl : args.length ≤ 89) (h : wpV Tryd.prog TV ⟨89, shF, false⟩ (Tryd.f17.body.getD .skip) (endK Tryd.prog Tryd.f17.results.toList r) ⟨env0 args, []⟩) : TV.pu 17 args = some r := TT_go (N := ⟨89, shF, false⟩) Tryd.func17 (by kernel_rfl) ok17 (by kernel_rfl) (by kernel_rfl) (fun _ => rfl) hl h -- rillmeter/rillmeterref19.Equal
@[simp] theorem sh18 : shF 18 = false := by decide
theorem run18 {args : List CA} {r : CA} (hl : args.length ≤ 37) (h : wpV Tryd.prog TV ⟨37, shF, false⟩ (Tryd.f18.body.getD .skip) (endK Tryd.prog Tryd.f18.results.toList r) ⟨env0 args, []⟩) : TV.pu 18 args = some r := TT_go (N := ⟨37, shF, false⟩) Tryd.func18 (by kernel_rfl) ok18 (by kernel_rfl) (by kernel_rfl) (fun _ => rfl) hl h -- rillmeter/rillmeterref19.Estimate
@[simp] theorem sh19 : shF 19 = false := by decide
theorem run19 {args : List CA} {r : CA} (hl : args.length ≤ 26) (h : wpV Tryd.prog TV ⟨26, shF, false⟩ (Tryd.f19.body.getD .skip) (endK Tryd.prog Tryd.f19.results.toList r) ⟨env0 args, []⟩) : TV.pu 19 args = some r := TT_go (N := ⟨26, shF, false⟩) Tryd.func19 (by kernel_rfl) ok19 (by kernel_rfl) (by kernel_rfl) (fun _ => rfl) hl h -- rillmeter/rillmeterlaw19.same
@[simp] theorem sh20 : shF 20 = false := by decide
theorem run20 {args : List CA} {r : CA} (hl : args.length ≤ 61) (h : wpV Tryd.prog TV ⟨61, shF, false⟩ (Tryd.f20.body.getD .skip) (endK Tryd.prog Tryd.f20.results.toList r) ⟨env0 args, []⟩) : TV.pu 20 args = some r := TT_go (N := ⟨61, shF, false⟩) Tryd.func20 (by kernel_rfl) ok20 (by kernel_rfl) (by kernel_rfl) (fun _ => rfl) hl h -- rillmeter/rillmeterref19.List
@[simp] theorem sh21 : shF 21 = false := by decide
theorem run21 {args : List CA} {r : CA} (hl : args.length ≤ 79) (h : wpV Tryd.prog TV ⟨79, shF, false⟩ (Tryd.f21.body.getD .skip) (endK Tryd.prog Tryd.f21.results.toList r) ⟨env0 args, []⟩) : TV.pu 21 args = some r := TT_go (N := ⟨79, shF, false⟩) Tryd.func21 (by kernel_rfl) ok21 (by kernel_rfl) (by kernel_rfl) (fun _ => rfl) hl h -- rillmeter/rillmeterref19.Add
@[simp] theorem sh22 : shF 22 = false := by decide
theorem run22 {args : List CA} {r : CA} (hl : args.length ≤ 59) (h : wpV Tryd.prog TV ⟨59, shF, false⟩ (Tryd.f22.body.getD .skip) (endK Tryd.prog Tryd.f22.results.toList r) ⟨env0 args, []⟩) : TV.pu 22 args = some r := TT_go (N := ⟨59, shF, false⟩) Tryd.func22 (by kernel_rfl) ok22 (by kernel_rfl) (by kernel_rfl) (fun _ => rfl) hl h -- rillmeter/spread.New
@[simp] theorem sh23 : shF 23 = false := by decide
theorem run23 {args : List CA} {r : CA} (hl : args.length ≤ 29) (h : wpV Tryd.prog TV ⟨29, shF, false⟩ (Tryd.f23.body.getD .skip) (endK Tryd.prog Tryd.f23.results.toList r) ⟨env0 args, []⟩) : TV.pu 23 args = some r := TT_go (N := ⟨29, shF, false⟩) Tryd.func23 (by kernel_rfl) ok23 (by kernel_rfl) (by kernel_rfl) (fun _ => rfl) hl h -- rillmeter/rillmeterlaw19.few
@[simp] theorem sh24 : shF 24 = false := by decide
theorem run24 {args : List CA} {r : CA} (hl : args.length ≤ 21) (h : wpV Tryd.prog TV ⟨21, shF, false⟩ (Tryd.f24.body.getD .skip) (endK Tryd.prog Tryd.f24.results.toList r) ⟨env0 args, []⟩) : TV.pu 24 args = some r := TT_go (N := ⟨21, shF, false⟩) Tryd.func24 (by kernel_rfl) ok24 (by kernel_rfl) (by kernel_rfl) (fun _ => rfl) hl h -- rillmeter/rillmeterlaw19.fed
@[simp] theorem sh25 : shF 25 = false := by decide
theorem run25 {args : List CA} {r : CA} (hl : args.length ≤ 20) (h : wpV Tryd.prog TV ⟨20, shF, false⟩ (Tryd.f25.body.getD .skip) (endK Tryd.prog Tryd.f25.results.toList r) ⟨env0 args, []⟩) : TV.pu 25 args = some r := TT_go (N := ⟨20, shF, false⟩) Tryd.func25 (by kernel_rfl) ok25 (by kernel_rfl) (by kernel_rfl) (fun _ => rfl) hl h -- rillmeter/hash.Level
@[simp] theorem sh26 : shF 26 = false := by decide
theorem run26 {args : List CA} {r : CA} (hl : args.length ≤ 17) (h : wpV Tryd.prog TV ⟨17, shF, false⟩ (Tryd.f26.body.getD .skip) (endK Tryd.prog Tryd.f26.results.toList r) ⟨env0 args, []⟩) : TV.pu 26 args = some r := TT_go (N := ⟨17, shF, false⟩) Tryd.func26 (by kernel_rfl) ok26 (by kernel_rfl) (by kernel_rfl) (fun _ => rfl) hl h -- rillmeter/hash.Row
@[simp] theorem sh27 : shF 27 = true := by decide
@[simp] theorem cl27 : isCl Tryd.prog 27 = true := by kernel_rfl
theorem run27 {args : List AV} {r : AV} {H H' : Hp} (hl : args.length ≤ 8) (hH : Gr Tryd.prog 27 H H') (h : wpV Tryd.prog TV ⟨8, shF, false⟩ (Tryd.f27.body.getD .skip) (endS Tryd.prog Tryd.f27.results.toList r H') ⟨envS args, H⟩) : TV.S 27 args H = some (r, H') := TT_goS (N := ⟨8, shF, false⟩) Tryd.func27 (by kernel_rfl) ok27 (by kernel_rfl) (by kernel_rfl) rfl hl hH h -- slices.Clone[[][]rillmeter/spread.Bucket,[]rillmeter/spread.Bucket]
@[simp] theorem sh28 : shF 28 = false := by decide
theorem run28 {args : List CA} {r : CA} (hl : args.length ≤ 20) (h : wpV Tryd.prog TV ⟨20, shF, false⟩ (Tryd.f28.body.getD .skip) (endK Tryd.prog Tryd.f28.results.toList r) ⟨env0 args, []⟩) : TV.pu 28 args = some r := TT_go (N := ⟨20, shF, false⟩) Tryd.func28 (by kernel_rfl) ok28 (by kernel_rfl) (by kernel_rfl) (fun _ => rfl) hl h -- rillmeter/spread.place
@[simp] theorem sh29 : shF 29 = false := by decide
theorem run29 {args : List CA} {r : CA} (hl : args.length ≤ 39) (h : wpV Tryd.prog TV ⟨39, shF, true⟩ (Tryd.f29.body.getD .skip) (endK Tryd.prog Tryd.f29.results.toList r) ⟨env0 args, []⟩) : TV.pu 29 args = some r := TT_go (N := ⟨39, shF, true⟩) Tryd.func29 (by kernel_rfl) ok29 (by kernel_rfl) (by kernel_rfl) (fun _ => rfl) hl h -- rillmeter/bitmap.Add
@[simp] theorem sh30 : shF 30 = true := by decide
@[simp] theorem cl30 : isCl Tryd.prog 30 = true := by kernel_rfl
theorem run30 {args : List AV} {r : AV} {H H' : Hp} (hl : args.length ≤ 8) (hH : Gr Tryd.prog 30 H H') (h : wpV Tryd.prog TV ⟨8, shF, false⟩ (Tryd.f30.body.getD .skip) (endS Tryd.prog Tryd.f30.results.toList r H') ⟨envS args, H⟩) : TV.S 30 args H = some (r, H') := TT_goS (N := ⟨8, shF, false⟩) Tryd.func30 (by kernel_rfl) ok30 (by kernel_rfl) (by kernel_rfl) rfl hl hH h -- slices.Clone[[]rillmeter/spread.Bucket,rillmeter/spread.Bucket]
@[simp] theorem sh31 : shF 31 = false := by decide
theorem run31 {args : List CA} {r : CA} (hl : args.length ≤ 50) (h : wpV Tryd.prog TV ⟨50, shF, false⟩ (Tryd.f31.body.getD .skip) (endK Tryd.prog Tryd.f31.results.toList r) ⟨env0 args, []⟩) : TV.pu 31 args = some r := TT_go (N := ⟨50, shF, false⟩) Tryd.func31 (by kernel_rfl) ok31 (by kernel_rfl) (by kernel_rfl) (fun _ => rfl) hl h -- rillmeter/bitmap.Estimate
@[simp] theorem sh33 : shF 33 = false := by decide
theorem run33 {args : List CA} {r : CA} (hl : args.length ≤ 17) (h : wpV Tryd.prog TV ⟨17, shF, false⟩ (Tryd.f33.body.getD .skip) (endK Tryd.prog Tryd.f33.results.toList r) ⟨env0 args, []⟩) : TV.pu 33 args = some r := TT_go (N := ⟨17, shF, false⟩) Tryd.func33 (by kernel_rfl) ok33 (by kernel_rfl) (by kernel_rfl) (fun _ => rfl) hl h -- rillmeter/spread.List$1
@[simp] theorem sh34 : shF 34 = false := by decide
theorem run34 {args : List CA} {r : CA} (hl : args.length ≤ 18) (h : wpV Tryd.prog TV ⟨18, shF, false⟩ (Tryd.f34.body.getD .skip) (endK Tryd.prog Tryd.f34.results.toList r) ⟨env0 args, []⟩) : TV.pu 34 args = some r := TT_go (N := ⟨18, shF, false⟩) Tryd.func34 (by kernel_rfl) ok34 (by kernel_rfl) (by kernel_rfl) (fun _ => rfl) hl h -- cmp.Or[int]
@[simp] theorem sh35 : shF 35 = false := by decide
theorem run35 {args : List CA} {r : CA} (hl : args.length ≤ 20) (h : wpV Tryd.prog TV ⟨20, shF, false⟩ (Tryd.f35.body.getD .skip) (endK Tryd.prog Tryd.f35.results.toList r) ⟨env0 args, []⟩) : TV.pu 35 args = some r := TT_go (N := ⟨20, shF, false⟩) Tryd.func35 (by kernel_rfl) ok35 (by kernel_rfl) (by kernel_rfl) (fun _ => rfl) hl h -- cmp.Compare[int]
@[simp] theorem sh36 : shF 36 = false := by decide
@[simp] theorem sh37 : shF 37 = false := by decide
theorem run37 {args : List CA} {r : CA} (hl : args.length ≤ 43) (h : wpV Tryd.prog TV ⟨43, shF, false⟩ (Tryd.f37.body.getD .skip) (endK Tryd.prog Tryd.f37.results.toList r) ⟨env0 args, []⟩) : TV.pu 37 args = some r := TT_go (N := ⟨43, shF, false⟩) Tryd.func37 (by kernel_rfl) ok37 (by kernel_rfl) (by kernel_rfl) (fun _ => rfl) hl h -- rillmeter/rillmeterref13.Right
@[simp] theorem sh38 : shF 38 = false := by decide
theorem run38 {args : List CA} {r : CA} (hl : args.length ≤ 17) (h : wpV Tryd.prog TV ⟨17, shF, false⟩ (Tryd.f38.body.getD .skip) (endK Tryd.prog Tryd.f38.results.toList r) ⟨env0 args, []⟩) : TV.pu 38 args = some r := TT_go (N := ⟨17, shF, false⟩) Tryd.func38 (by kernel_rfl) ok38 (by kernel_rfl) (by kernel_rfl) (fun _ => rfl) hl h -- rillmeter/rillmeterref02.Row
@[simp] theorem sh39 : shF 39 = false := by decide
theorem run39 {args : List CA} {r : CA} (hl : args.length ≤ 44) (h : wpV Tryd.prog TV ⟨44, shF, false⟩ (Tryd.f39.body.getD .skip) (endK Tryd.prog Tryd.f39.results.toList r) ⟨env0 args, []⟩) : TV.pu 39 args = some r := TT_go (N := ⟨44, shF, false⟩) Tryd.func39 (by kernel_rfl) ok39 (by kernel_rfl) (by kernel_rfl) (fun _ => rfl) hl h -- rillmeter/rillmeterref13.Estimate
@[simp] theorem sh40 : shF 40 = false := by decide
theorem run40 {args : List CA} {r : CA} (hl : args.length ≤ 20) (h : wpV Tryd.prog TV ⟨20, shF, false⟩ (Tryd.f40.body.getD .skip) (endK Tryd.prog Tryd.f40.results.toList r) ⟨env0 args, []⟩) : TV.pu 40 args = some r := TT_go (N := ⟨20, shF, false⟩) Tryd.func40 (by kernel_rfl) ok40 (by kernel_rfl) (by kernel_rfl) (fun _ => rfl) hl h -- rillmeter/bitmap.Right
@[simp] theorem sh41 : shF 41 = false := by decide
theorem run41 {args : List CA} {r : CA} (hl : args.length ≤ 7) (h : wpV Tryd.prog TV ⟨7, shF, false⟩ (Tryd.f41.body.getD .skip) (endK Tryd.prog Tryd.f41.results.toList r) ⟨env0 args, []⟩) : TV.pu 41 args = some r := TT_go (N := ⟨7, shF, false⟩) Tryd.func41 (by kernel_rfl) ok41 (by kernel_rfl) (by kernel_rfl) (fun _ => rfl) hl h -- rillmeter/spread.none
@[simp] theorem sh42 : shF 42 = false := by decide
theorem run42 {args : List CA} {r : CA} (hl : args.length ≤ 68) (h : wpV Tryd.prog TV ⟨68, shF, false⟩ (Tryd.f42.body.getD .skip) (endK Tryd.prog Tryd.f42.results.toList r) ⟨env0 args, []⟩) : TV.pu 42 args = some r := TT_go (N := ⟨68, shF, false⟩) Tryd.func42 (by kernel_rfl) ok42 (by kernel_rfl) (by kernel_rfl) (fun _ => rfl) hl h -- rillmeter/rillmeterref13.Equal
@[simp] theorem sh43 : shF 43 = false := by decide
theorem run43 {args : List CA} {r : CA} (hl : args.length ≤ 20) (h : wpV Tryd.prog TV ⟨20, shF, false⟩ (Tryd.f43.body.getD .skip) (endK Tryd.prog Tryd.f43.results.toList r) ⟨env0 args, []⟩) : TV.pu 43 args = some r := TT_go (N := ⟨20, shF, false⟩) Tryd.func43 (by kernel_rfl) ok43 (by kernel_rfl) (by kernel_rfl) (fun _ => rfl) hl h -- rillmeter/rillmeterref19.Place
@[simp] theorem sh44 : shF 44 = false := by decide
theorem run44 {args : List CA} {r : CA} (hl : args.length ≤ 25) (h : wpV Tryd.prog TV ⟨25, shF, false⟩ (Tryd.f44.body.getD .skip) (endK Tryd.prog Tryd.f44.results.toList r) ⟨env0 args, []⟩) : TV.pu 44 args = some r := TT_go (N := ⟨25, shF, false⟩) Tryd.func44 (by kernel_rfl) ok44 (by kernel_rfl) (by kernel_rfl) (fun _ => rfl) hl h -- rillmeter/rillmeterref14.Get
@[simp] theorem sh45 : shF 45 = false := by decide
theorem run45 {args : List CA} {r : CA} (hl : args.length ≤ 42) (h : wpV Tryd.prog TV ⟨42, shF, false⟩ (Tryd.f45.body.getD .skip) (endK Tryd.prog Tryd.f45.results.toList r) ⟨env0 args, []⟩) : TV.pu 45 args = some r := TT_go (N := ⟨42, shF, false⟩) Tryd.func45 (by kernel_rfl) ok45 (by kernel_rfl) (by kernel_rfl) (fun _ => rfl) hl h -- rillmeter/rillmeterref14.Put
@[simp] theorem sh46 : shF 46 = false := by decide
theorem run46 {args : List CA} {r : CA} (hl : args.length ≤ 25) (h : wpV Tryd.prog TV ⟨25, shF, false⟩ (Tryd.f46.body.getD .skip) (endK Tryd.prog Tryd.f46.results.toList r) ⟨env0 args, []⟩) : TV.pu 46 args = some r := TT_go (N := ⟨25, shF, false⟩) Tryd.func46 (by kernel_rfl) ok46 (by kernel_rfl) (by kernel_rfl) (fun _ => rfl) hl h -- rillmeter/rillmeterref02.Level
@[simp] theorem sh47 : shF 47 = false := by decide
theorem run47 {args : List CA} {r : CA} (hl : args.length ≤ 62) (h : wpV Tryd.prog TV ⟨62, shF, false⟩ (Tryd.f47.body.getD .skip) (endK Tryd.prog Tryd.f47.results.toList r) ⟨env0 args, []⟩) : TV.pu 47 args = some r := TT_go (N := ⟨62, shF, false⟩) Tryd.func47 (by kernel_rfl) ok47 (by kernel_rfl) (by kernel_rfl) (fun _ => rfl) hl h -- rillmeter/rillmeterref13.Add
@[simp] theorem sh48 : shF 48 = false := by decide
theorem run48 {args : List CA} {r : CA} (hl : args.length ≤ 38) (h : wpV Tryd.prog TV ⟨38, shF, false⟩ (Tryd.f48.body.getD .skip) (endK Tryd.prog Tryd.f48.results.toList r) ⟨env0 args, []⟩) : TV.pu 48 args = some r := TT_go (N := ⟨38, shF, false⟩) Tryd.func48 (by kernel_rfl) ok48 (by kernel_rfl) (by kernel_rfl) (fun _ => rfl) hl h -- rillmeter/bitmap.New
@[simp] theorem sh49 : shF 49 = false := by decide
theorem run49 {args : List CA} {r : CA} (hl : args.length ≤ 48) (h : wpV Tryd.prog TV ⟨48, shF, false⟩ (Tryd.f49.body.getD .skip) (endK Tryd.prog Tryd.f49.results.toList r) ⟨env0 args, []⟩) : TV.pu 49 args = some r := TT_go (N := ⟨48, shF, false⟩) Tryd.func49 (by kernel_rfl) ok49 (by kernel_rfl) (by kernel_rfl) (fun _ => rfl) hl h -- slices.Repeat[[]rillmeter/spread.Bucket,rillmeter/spread.Bucket]
@[simp] theorem sh50 : shF 50 = false := by decide
theorem run50 {args : List CA} {r : CA} (hl : args.length ≤ 51) (h : wpV Tryd.prog TV ⟨51, shF, false⟩ (Tryd.f50.body.getD .skip) (endK Tryd.prog Tryd.f50.results.toList r) ⟨env0 args, []⟩) : TV.pu 50 args = some r := TT_go (N := ⟨51, shF, false⟩) Tryd.func50 (by kernel_rfl) ok50 (by kernel_rfl) (by kernel_rfl) (fun _ => rfl) hl h -- rillmeter/hash.Sum
@[simp] theorem sh51 : shF 51 = false := by decide
@[simp] theorem sh52 : shF 52 = false := by decide
theorem run52 {args : List CA} {r : CA} (hl : args.length ≤ 11) (h : wpV Tryd.prog TV ⟨11, shF, false⟩ (Tryd.f52.body.getD .skip) (endK Tryd.prog Tryd.f52.results.toList r) ⟨env0 args, []⟩) : TV.pu 52 args = some r := TT_go (N := ⟨11, shF, false⟩) Tryd.func52 (by kernel_rfl) ok52 (by kernel_rfl) (by kernel_rfl) (fun _ => rfl) hl h -- rillmeter/field.Add
@[simp] theorem sh53 : shF 53 = false := by decide
theorem run53 {args : List CA} {r : CA} (hl : args.length ≤ 24) (h : wpV Tryd.prog TV ⟨24, shF, false⟩ (Tryd.f53.body.getD .skip) (endK Tryd.prog Tryd.f53.results.toList r) ⟨env0 args, []⟩) : TV.pu 53 args = some r := TT_go (N := ⟨24, shF, false⟩) Tryd.func53 (by kernel_rfl) ok53 (by kernel_rfl) (by kernel_rfl) (fun _ => rfl) hl h -- rillmeter/field.Mul
@[simp] theorem sh54 : shF 54 = false := by decide
theorem run54 {args : List CA} {r : CA} (hl : args.length ≤ 16) (h : wpV Tryd.prog TV ⟨16, shF, false⟩ (Tryd.f54.body.getD .skip) (endK Tryd.prog Tryd.f54.results.toList r) ⟨env0 args, []⟩) : TV.pu 54 args = some r := TT_go (N := ⟨16, shF, false⟩) Tryd.func54 (by kernel_rfl) ok54 (by kernel_rfl) (by kernel_rfl) (fun _ => rfl) hl h -- rillmeter/hash.Cell
@[simp] theorem sh55 : shF 55 = false := by decide
theorem run55 {args : List CA} {r : CA} (hl : args.length ≤ 31) (h : wpV Tryd.prog TV ⟨31, shF, false⟩ (Tryd.f55.body.getD .skip) (endK Tryd.prog Tryd.f55.results.toList r) ⟨env0 args, []⟩) : TV.pu 55 args = some r := TT_go (N := ⟨31, shF, false⟩) Tryd.func55 (by kernel_rfl) ok55 (by kernel_rfl) (by kernel_rfl) (fun _ => rfl) hl h -- rillmeter/bitmap.Place
@[simp] theorem sh56 : shF 56 = true := by decide
@[simp] theorem cl56 : isCl Tryd.prog 56 = true := by kernel_rfl
theorem run56 {args : List AV} {r : AV} {H H' : Hp} (hl : args.length ≤ 8) (hH : Gr Tryd.prog 56 H H') (h : wpV Tryd.prog TV ⟨8, shF, false⟩ (Tryd.f56.body.getD .skip) (endS Tryd.prog Tryd.f56.results.toList r H') ⟨envS args, H⟩) : TV.S 56 args H = some (r, H') := TT_goS (N := ⟨8, shF, false⟩) Tryd.func56 (by kernel_rfl) ok56 (by kernel_rfl) (by kernel_rfl) rfl hl hH h -- slices.Clone[[][]bool,[]bool]
@[simp] theorem sh57 : shF 57 = true := by decide
@[simp] theorem cl57 : isCl Tryd.prog 57 = true := by kernel_rfl
theorem run57 {args : List AV} {r : AV} {H H' : Hp} (hl : args.length ≤ 8) (hH : Gr Tryd.prog 57 H H') (h : wpV Tryd.prog TV ⟨8, shF, false⟩ (Tryd.f57.body.getD .skip) (endS Tryd.prog Tryd.f57.results.toList r H') ⟨envS args, H⟩) : TV.S 57 args H = some (r, H') := TT_goS (N := ⟨8, shF, false⟩) Tryd.func57 (by kernel_rfl) ok57 (by kernel_rfl) (by kernel_rfl) rfl hl hH h -- slices.Clone[[]bool,bool]
@[simp] theorem sh58 : shF 58 = false := by decide
@[simp] theorem sh59 : shF 59 = false := by decide
@[simp] theorem sh60 : shF 60 = false := by decide
theorem run60 {args : List CA} {r : CA} (hl : args.length ≤ 6) (h : wpV Tryd.prog TV ⟨6, shF, false⟩ (Tryd.f60.body.getD .skip) (endK Tryd.prog Tryd.f60.results.toList r) ⟨env0 args, []⟩) : TV.pu 60 args = some r := TT_go (N := ⟨6, shF, false⟩) Tryd.func60 (by kernel_rfl) ok60 (by kernel_rfl) (by kernel_rfl) (fun _ => rfl) hl h -- cmp.isNaN[int]
@[simp] theorem sh61 : shF 61 = false := by decide
@[simp] theorem sh62 : shF 62 = false := by decide
theorem run62 {args : List CA} {r : CA} (hl : args.length ≤ 26) (h : wpV Tryd.prog TV ⟨26, shF, false⟩ (Tryd.f62.body.getD .skip) (endK Tryd.prog Tryd.f62.results.toList r) ⟨env0 args, []⟩) : TV.pu 62 args = some r := TT_go (N := ⟨26, shF, false⟩) Tryd.func62 (by kernel_rfl) ok62 (by kernel_rfl) (by kernel_rfl) (fun _ => rfl) hl h -- rillmeter/rillmeterref01.Mul
@[simp] theorem sh63 : shF 63 = false := by decide
theorem run63 {args : List CA} {r : CA} (hl : args.length ≤ 11) (h : wpV Tryd.prog TV ⟨11, shF, false⟩ (Tryd.f63.body.getD .skip) (endK Tryd.prog Tryd.f63.results.toList r) ⟨env0 args, []⟩) : TV.pu 63 args = some r := TT_go (N := ⟨11, shF, false⟩) Tryd.func63 (by kernel_rfl) ok63 (by kernel_rfl) (by kernel_rfl) (fun _ => rfl) hl h -- rillmeter/rillmeterref01.Add
@[simp] theorem sh64 : shF 64 = false := by decide
theorem run64 {args : List CA} {r : CA} (hl : args.length ≤ 22) (h : wpV Tryd.prog TV ⟨22, shF, false⟩ (Tryd.f64.body.getD .skip) (endK Tryd.prog Tryd.f64.results.toList r) ⟨env0 args, []⟩) : TV.pu 64 args = some r := TT_go (N := ⟨22, shF, false⟩) Tryd.func64 (by kernel_rfl) ok64 (by kernel_rfl) (by kernel_rfl) (fun _ => rfl) hl h -- rillmeter/rillmeterref01.Pow
@[simp] theorem sh65 : shF 65 = false := by decide
theorem run65 {args : List CA} {r : CA} (hl : args.length ≤ 9) (h : wpV Tryd.prog TV ⟨9, shF, false⟩ (Tryd.f65.body.getD .skip) (endK Tryd.prog Tryd.f65.results.toList r) ⟨env0 args, []⟩) : TV.pu 65 args = some r := TT_go (N := ⟨9, shF, false⟩) Tryd.func65 (by kernel_rfl) ok65 (by kernel_rfl) (by kernel_rfl) (fun _ => rfl) hl h -- slices.ContainsFunc[[][]bool,[]bool]
@[simp] theorem sh66 : shF 66 = false := by decide
theorem run66 {args : List CA} {r : CA} (hl : args.length ≤ 22) (h : wpV Tryd.prog TV ⟨22, shF, false⟩ (Tryd.f66.body.getD .skip) (endK Tryd.prog Tryd.f66.results.toList r) ⟨env0 args, []⟩) : TV.pu 66 args = some r := TT_go (N := ⟨22, shF, false⟩) Tryd.func66 (by kernel_rfl) ok66 (by kernel_rfl) (by kernel_rfl) (fun _ => rfl) hl h -- rillmeter/bitmap.Right$1
@[simp] theorem sh67 : shF 67 = false := by decide
theorem run67 {args : List CA} {r : CA} (hl : args.length ≤ 5) (h : wpV Tryd.prog TV ⟨5, shF, false⟩ (Tryd.f67.body.getD .skip) (endK Tryd.prog Tryd.f67.results.toList r) ⟨env0 args, []⟩) : TV.pu 67 args = some r := TT_go (N := ⟨5, shF, false⟩) Tryd.func67 (by kernel_rfl) ok67 (by kernel_rfl) (by kernel_rfl) (fun _ => rfl) hl h -- rillmeter/spread.none$1
@[simp] theorem sh68 : shF 68 = false := by decide
theorem run68 {args : List CA} {r : CA} (hl : args.length ≤ 9) (h : wpV Tryd.prog TV ⟨9, shF, false⟩ (Tryd.f68.body.getD .skip) (endK Tryd.prog Tryd.f68.results.toList r) ⟨env0 args, []⟩) : TV.pu 68 args = some r := TT_go (N := ⟨9, shF, false⟩) Tryd.func68 (by kernel_rfl) ok68 (by kernel_rfl) (by kernel_rfl) (fun _ => rfl) hl h -- slices.Contains[[]bool,bool]
@[simp] theorem sh69 : shF 69 = false := by decide
theorem run69 {args : List CA} {r : CA} (hl : args.length ≤ 16) (h : wpV Tryd.prog TV ⟨16, shF, false⟩ (Tryd.f69.body.getD .skip) (endK Tryd.prog Tryd.f69.results.toList r) ⟨env0 args, []⟩) : TV.pu 69 args = some r := TT_go (N := ⟨16, shF, false⟩) Tryd.func69 (by kernel_rfl) ok69 (by kernel_rfl) (by kernel_rfl) (fun _ => rfl) hl h -- rillmeter/rillmeterref02.Cell
@[simp] theorem sh70 : shF 70 = false := by decide
theorem run70 {args : List CA} {r : CA} (hl : args.length ≤ 24) (h : wpV Tryd.prog TV ⟨24, shF, false⟩ (Tryd.f70.body.getD .skip) (endK Tryd.prog Tryd.f70.results.toList r) ⟨env0 args, []⟩) : TV.pu 70 args = some r := TT_go (N := ⟨24, shF, false⟩) Tryd.func70 (by kernel_rfl) ok70 (by kernel_rfl) (by kernel_rfl) (fun _ => rfl) hl h -- rillmeter/rillmeterref14.Ahead
@[simp] theorem sh71 : shF 71 = false := by decide
theorem run71 {args : List CA} {r : CA} (hl : args.length ≤ 36) (h : wpV Tryd.prog TV ⟨36, shF, false⟩ (Tryd.f71.body.getD .skip) (endK Tryd.prog Tryd.f71.results.toList r) ⟨env0 args, []⟩) : TV.pu 71 args = some r := TT_go (N := ⟨36, shF, false⟩) Tryd.func71 (by kernel_rfl) ok71 (by kernel_rfl) (by kernel_rfl) (fun _ => rfl) hl h -- rillmeter/rillmeterref02.Sum
@[simp] theorem sh72 : shF 72 = false := by decide
theorem run72 {args : List CA} {r : CA} (hl : args.length ≤ 27) (h : wpV Tryd.prog TV ⟨27, shF, false⟩ (Tryd.f72.body.getD .skip) (endK Tryd.prog Tryd.f72.results.toList r) ⟨env0 args, []⟩) : TV.pu 72 args = some r := TT_go (N := ⟨27, shF, false⟩) Tryd.func72 (by kernel_rfl) ok72 (by kernel_rfl) (by kernel_rfl) (fun _ => rfl) hl h -- rillmeter/rillmeterref13.Place
@[simp] theorem sh73 : shF 73 = false := by decide
theorem run73 {args : List CA} {r : CA} (hl : args.length ≤ 30) (h : wpV Tryd.prog TV ⟨30, shF, false⟩ (Tryd.f73.body.getD .skip) (endK Tryd.prog Tryd.f73.results.toList r) ⟨env0 args, []⟩) : TV.pu 73 args = some r := TT_go (N := ⟨30, shF, false⟩) Tryd.func73 (by kernel_rfl) ok73 (by kernel_rfl) (by kernel_rfl) (fun _ => rfl) hl h -- math/bits.Mul
@[simp] theorem sh74 : shF 74 = false := by decide
theorem run74 {args : List CA} {r : CA} (hl : args.length ≤ 22) (h : wpV Tryd.prog TV ⟨22, shF, false⟩ (Tryd.f74.body.getD .skip) (endK Tryd.prog Tryd.f74.results.toList r) ⟨env0 args, []⟩) : TV.pu 74 args = some r := TT_go (N := ⟨22, shF, false⟩) Tryd.func74 (by kernel_rfl) ok74 (by kernel_rfl) (by kernel_rfl) (fun _ => rfl) hl h -- rillmeter/field.Pow
@[simp] theorem sh75 : shF 75 = false := by decide
theorem run75 {args : List CA} {r : CA} (hl : args.length ≤ 13) (h : wpV Tryd.prog TV ⟨13, shF, false⟩ (Tryd.f75.body.getD .skip) (endK Tryd.prog Tryd.f75.results.toList r) ⟨env0 args, []⟩) : TV.pu 75 args = some r := TT_go (N := ⟨13, shF, false⟩) Tryd.func75 (by kernel_rfl) ok75 (by kernel_rfl) (by kernel_rfl) (fun _ => rfl) hl h -- rillmeter/field.Of
@[simp] theorem sh76 : shF 76 = false := by decide
theorem run76 {args : List CA} {r : CA} (hl : args.length ≤ 51) (h : wpV Tryd.prog TV ⟨51, shF, false⟩ (Tryd.f76.body.getD .skip) (endK Tryd.prog Tryd.f76.results.toList r) ⟨env0 args, []⟩) : TV.pu 76 args = some r := TT_go (N := ⟨51, shF, false⟩) Tryd.func76 (by kernel_rfl) ok76 (by kernel_rfl) (by kernel_rfl) (fun _ => rfl) hl h -- math/bits.Mul64
@[simp] theorem sh77 : shF 77 = false := by decide
@[simp] theorem sh78 : shF 78 = false := by decide
@[simp] theorem sh79 : shF 79 = false := by decide
@[simp] theorem sh80 : shF 80 = false := by decide
@[simp] theorem sh81 : shF 81 = false := by decide
@[simp] theorem sh82 : shF 82 = false := by decide
@[simp] theorem sh83 : shF 83 = false := by decide
@[simp] theorem sh84 : shF 84 = false := by decide
@[simp] theorem sh85 : shF 85 = false := by decide
@[simp] theorem sh86 : shF 86 = false := by decide
@[simp] theorem sh87 : shF 87 = false := by decide
@[simp] theorem sh88 : shF 88 = false := by decide
theorem run88 {args : List CA} {r : CA} (hl : args.length ≤ 19) (h : wpV Tryd.prog TV ⟨19, shF, false⟩ (Tryd.f88.body.getD .skip) (endK Tryd.prog Tryd.f88.results.toList r) ⟨env0 args, []⟩) : TV.pu 88 args = some r := TT_go (N := ⟨19, shF, false⟩) Tryd.func88 (by kernel_rfl) ok88 (by kernel_rfl) (by kernel_rfl) (fun _ => rfl) hl h -- slices.IndexFunc[[][]bool,[]bool]
@[simp] theorem sh89 : shF 89 = false := by decide
theorem run89 {args : List CA} {r : CA} (hl : args.length ≤ 19) (h : wpV Tryd.prog TV ⟨19, shF, false⟩ (Tryd.f89.body.getD .skip) (endK Tryd.prog Tryd.f89.results.toList r) ⟨env0 args, []⟩) : TV.pu 89 args = some r := TT_go (N := ⟨19, shF, false⟩) Tryd.func89 (by kernel_rfl) ok89 (by kernel_rfl) (by kernel_rfl) (fun _ => rfl) hl h -- slices.Index[[]bool,bool]
@[simp] theorem sh90 : shF 90 = false := by decide
theorem run90 {args : List CA} {r : CA} (hl : args.length ≤ 5) (h : wpV Tryd.prog TV ⟨5, shF, false⟩ (Tryd.f90.body.getD .skip) (endK Tryd.prog Tryd.f90.results.toList r) ⟨env0 args, []⟩) : TV.pu 90 args = some r := TT_go (N := ⟨5, shF, false⟩) Tryd.func90 (by kernel_rfl) ok90 (by kernel_rfl) (by kernel_rfl) (fun _ => rfl) hl h -- rillmeter/rillmeterref01.Of
@[simp] theorem sh91 : shF 91 = false := by decide
theorem run91 {args : List CA} {r : CA} (hl : args.length ≤ 48) (h : wpV Tryd.prog TV ⟨48, shF, false⟩ (Tryd.f91.body.getD .skip) (endK Tryd.prog Tryd.f91.results.toList r) ⟨env0 args, []⟩) : TV.pu 91 args = some r := TT_go (N := ⟨48, shF, false⟩) Tryd.func91 (by kernel_rfl) ok91 (by kernel_rfl) (by kernel_rfl) (fun _ => rfl) hl h -- rillmeter/rillmeterref02.words
@[simp] theorem sh92 : shF 92 = false := by decide
theorem run92 {args : List CA} {r : CA} (hl : args.length ≤ 17) (h : wpV Tryd.prog TV ⟨17, shF, false⟩ (Tryd.f92.body.getD .skip) (endK Tryd.prog Tryd.f92.results.toList r) ⟨env0 args, []⟩) : TV.pu 92 args = some r := TT_go (N := ⟨17, shF, false⟩) Tryd.func92 (by kernel_rfl) ok92 (by kernel_rfl) (by kernel_rfl) (fun _ => rfl) hl h -- math/bits.Mul32
@[simp] theorem sh93 : shF 93 = false := by decide
@[simp] theorem sh94 : shF 94 = false := by decide
@[simp] theorem sh95 : shF 95 = false := by decide
@[simp] theorem sh96 : shF 96 = false := by decide
@[simp] theorem sh97 : shF 97 = false := by decide
@[simp] theorem sh98 : shF 98 = false := by decide
end Go.Proofs.YtonkhpeahbjmmaaDoorF
end

section
/- A law's arguments, read as data, are closed values; and what a law tells of them stands in the statement's form. -/
namespace Go.Proofs.Vm
open Go Go.RowKit Go.ChangeShapes Go.WideShapes

def All (w : World) : Nat → Prop := fun b => b < w.heap.size

/-- Whatever reads as data of type T is so many closed cells, that are good. -/
def Opens (P : Program) (T : TypeId) (sz : Nat) (good : List CV → Prop) : Prop :=
  ∀ (H : Type) (enc : TypeId × Value → H) (W : World) (spare : Nat → Bool) (held : Bool) (fuel : Nat) (cs : List Value) (x : DataW H × List MemPlace),
    DataW.trod enc P W 0 spare held fuel T cs = some x → (∀ q ∈ DataW.weights P T x.1, q ≤ 140737488351232) → ∃ l : List CV, RKs (All W) W l cs ∧ l.length = sz ∧ good l

variable {P : Program}

theorem rks_one {I : Nat → Prop} {w : World} {x : CV} {v : Value} (h : RC I w x v) : RKs I w [x] [v] := by
  refine ⟨rfl, fun j y z hy hz => ?_⟩
  cases j with
  | zero => cases hy; cases hz; exact h
  | succ j => simp at hy
theorem rks_append {I : Nat → Prop} {w : World} {l m : List CV} {vs us : List Value} (h : RKs I w l vs) (k : RKs I w m us) : RKs I w (l ++ m) (vs ++ us) := by
  refine ⟨by simp [h.1, k.1], fun j x y hx hy => ?_⟩
  by_cases hj : j < l.length
  · rw [List.getElem?_append_left hj] at hx
    rw [List.getElem?_append_left (by rw [← h.1]; exact hj)] at hy
    exact h.2 j x y hx hy
  · rw [List.getElem?_append_right (by omega)] at hx
    rw [List.getElem?_append_right (by rw [← h.1]; omega), ← h.1] at hy
    exact k.2 _ x y hx hy

def isI (k : IntKind) (l : List CV) : Prop := ∃ n, l = [.v (.int k n)] ∧ (Lit.int k n).wf = true
def isB (l : List CV) : Prop := ∃ b, l = [.v (.bool b)]
def isS (l : List CV) : Prop := ∃ s : ByteArray, l = [.v (.string s)] ∧ s.size ≤ 140737488351232
def isL (sz bytes : Nat) (good : List CV → Prop) (l : List CV) : Prop := ∃ L : List (List CV), l = [.arr L] ∧ (∀ e ∈ L, e.length = sz ∧ good e) ∧ L.length * bytes ≤ 140737488351232
def isP (good good' : List CV → Prop) (l : List CV) : Prop := ∃ a b, l = a ++ b ∧ good a ∧ good' b

theorem opens_int {T : TypeId} {k : IntKind} (ht : P.underlying T = some (.int k)) : Opens P T 1 (isI k) := by
  intro H enc W spare held fuel cs x h _
  obtain ⟨n, rfl, _, hw⟩ := DataW.trod_int ht h
  exact ⟨_, rks_one (.v _ rfl), rfl, n, rfl, hw⟩
theorem opens_bool {T : TypeId} (ht : P.underlying T = some .bool) : Opens P T 1 isB := by
  intro H enc W spare held fuel cs x h _
  obtain ⟨n, rfl, _⟩ := DataW.trod_bool ht h
  exact ⟨_, rks_one (.v _ rfl), rfl, n, rfl⟩
theorem opens_string {T : TypeId} (ht : P.underlying T = some .string) : Opens P T 1 isS := by
  intro H enc W spare held fuel cs x h hq
  obtain ⟨s, rfl, rfl, _⟩ := DataW.trod_string ht h
  have h1 := hq s.data.toList.length (by simp [DataW.weights])
  rw [Array.length_toList] at h1
  exact ⟨_, rks_one (.v _ rfl), rfl, s, rfl, h1⟩
theorem cells_at {W : World} {a : Addr} {n : Nat} {cs : List Value} (h : W.cells? 0 a n = some cs) : cs.length = n ∧ ∀ i u, cs[i]? = some u → W.cell? (a.add i) = some u := by
  unfold World.cells? at h
  rw [if_pos (Nat.zero_le _)] at h
  have hl : cs.length = n := by have := mapM_some_length h; simpa using this
  refine ⟨hl, fun i u hu => ?_⟩
  have hi : i < n := by have := (List.getElem?_eq_some_iff.1 hu).1; omega
  have h1 := mapM_some_get h i i (by simp [hi])
  rw [h1, hu]
theorem weights_all {H : Type} {e : TypeId} {l : List (DataW H)} {d : DataW H} (hd : d ∈ l) : ∀ q ∈ DataW.weights P e d, q ∈ DataW.weightsAll P e l := by
  induction l with
  | nil => cases hd
  | cons y t ih =>
    intro q hq
    simp only [DataW.weightsAll, List.mem_append]
    rcases List.mem_cons.1 hd with rfl | h
    · exact .inl hq
    · exact .inr (ih h q hq)
theorem opens_slice {T e : TypeId} {sz bytes : Nat} {good : List CV → Prop} (ht : P.underlying T = some (.slice e)) (hc : P.cellsOf e = sz) (hz : 0 < sz) (hb : P.bytesOf e = bytes) (he : Opens P e sz good) : Opens P T 1 (isL sz bytes good) := by
  intro H enc W spare held fuel cs x h hq
  rcases Go.Deep.open_slice ht h with ⟨rfl, rfl⟩ | ⟨a, len, cap, m, n, D, Pl, rfl, _, hlc, hcap, hm, rfl, hel⟩
  · refine ⟨[.arr []], rks_one (.arr [] none 0 0 (fun _ _ => .bool false) (Nat.le_refl _) (by simp) (by simp) (by simp)), rfl, [], rfl, by simp, by simp⟩
  · have hlm : len ≤ m := by rw [hm]; split <;> omega
    simp only [DataW.weights, ht, List.mem_cons, List.mem_append] at hq
    obtain ⟨F, hF⟩ := Go.Deep.choose_lt (α := List CV × List Value) (n := len) (p := fun i y => W.cells? 0 (a.add (i * P.cellsOf e)) (P.cellsOf e) = some y.2 ∧ RKs (All W) W y.1 y.2 ∧ y.1.length = sz ∧ good y.1) (fun i hi => by
      obtain ⟨cs', h1, h2⟩ := hel i (by omega)
      obtain ⟨l, hl, hs, hg⟩ := he H enc W spare held n cs' (D i, Pl i) h2 (fun q hq1 => hq q (.inr (.inl (weights_all (List.mem_map.2 ⟨i, List.mem_range.2 hi, rfl⟩) q hq1))))
      exact ⟨(l, cs'), h1, hl, hs, hg⟩)
    have hw : len * bytes ≤ 140737488351232 := by
      have h1 := hq _ (.inl rfl)
      rw [hb] at h1
      refine Nat.le_trans (Nat.mul_le_mul_right _ ?_) h1
      simp
    have hlen : ((List.range len).map fun i => (F i).1).length = len := by simp
    have get : ∀ (i : Nat) e, ((List.range len).map fun i => (F i).1)[i]? = some e → i < len ∧ e = (F i).1 := by
      intro i e hi
      have hl := (List.getElem?_eq_some_iff.1 hi).1
      rw [hlen] at hl
      rw [List.getElem?_map, List.getElem?_range hl] at hi
      cases hi
      exact ⟨hl, rfl⟩
    have cell : ∀ i j, i < len → j < sz → W.cell? ((a.add (i * sz)).add j) = some ((F i).2.getD j (.bool false)) := by
      intro i j hi hj
      obtain ⟨h1, h2, h3, _⟩ := hF i hi
      obtain ⟨k1, k2⟩ := cells_at h1
      rw [hc] at k1 k2
      refine k2 j _ ?_
      rw [List.getD_eq_getElem?_getD, List.getElem?_eq_getElem (by omega)]
      rfl
    have key : RC (All W) W (.arr ((List.range len).map fun i => (F i).1)) (.slice (some a) ((List.range len).map fun i => (F i).1).length cap) := by
      refine .arr _ (some a) cap sz (fun i j => (F i).2.getD j (.bool false)) (by rw [hlen]; exact hlc) (fun e he => ?_) (fun hn => ?_) (fun i j e x hi hx => ?_)
      · obtain ⟨i, hi⟩ := List.getElem?_of_mem he
        obtain ⟨hl, rfl⟩ := get i e hi
        exact (hF i hl).2.2.1
      · have hp : 0 < len := by
          rcases Nat.eq_zero_or_pos len with h0 | h0
          · subst h0; exact absurd rfl hn
          · exact h0
        have c0 := cell 0 0 hp hz
        have hadd : ∀ k, a.spot = none → a.add k = ⟨a.block, a.off + k, none⟩ := fun k hs => by
          obtain ⟨b, o, s⟩ := a
          cases hs
          simp [Addr.add]
        have hs : a.spot = none := by
          simp only [Nat.zero_mul] at c0
          rw [show (a.add 0).add 0 = a by simp [Addr.add]] at c0
          unfold World.cell? at c0
          split at c0
          · split at c0
            · cases c0
            · rename_i h0; simpa using h0
          · cases c0
        refine ⟨a.block, a.off, by obtain ⟨b, o, s⟩ := a; cases hs; rfl, ?_, fun i j hi hj => ?_⟩
        · simp only [Nat.zero_mul] at c0
          rw [show (a.add 0).add 0 = a by simp [Addr.add]] at c0
          show a.block < W.heap.size
          unfold World.cell? at c0
          rcases Nat.lt_or_ge a.block W.heap.size with h0 | h0
          · exact h0
          · rw [Array.getElem?_eq_none h0] at c0; cases c0
        · have := cell i j (by rw [hlen] at hi; exact hi) hj
          rw [Addr.add_add, hadd _ hs] at this
          rw [← this]
      · obtain ⟨hl, rfl⟩ := get i e hi
        obtain ⟨h1, h2, h3, _⟩ := hF i hl
        have hj : j < (F i).1.length := (List.getElem?_eq_some_iff.1 hx).1
        have hj2 : j < (F i).2.length := by rw [← h2.1]; exact hj
        refine h2.2 j x _ hx ?_
        rw [List.getD_eq_getElem?_getD, List.getElem?_eq_getElem hj2]
        rfl
    rw [hlen] at key
    refine ⟨_, rks_one key, rfl, _, rfl, fun e he => ?_, by rw [hlen]; exact hw⟩
    obtain ⟨i, hi⟩ := List.getElem?_of_mem he
    obtain ⟨hl, rfl⟩ := get i e hi
    exact (hF i hl).2.2
/-- The fields of a struct, from a place on. -/
def OpensAt (P : Program) (fs : List Field) (o sz : Nat) (good : List CV → Prop) : Prop :=
  ∀ (H : Type) (enc : TypeId × Value → H) (W : World) (spare : Nat → Bool) (held : Bool) (n : Nat) (cs : List Value), cs.length = o + sz →
    (∀ f ∈ fs, ∃ y : DataW H × List MemPlace, DataW.trod enc P W 0 spare held n f.type ((cs.drop f.offset).take (P.cellsOf f.type)) = some y ∧ ∀ q ∈ DataW.weights P f.type y.1, q ≤ 140737488351232) →
    ∃ l : List CV, RKs (All W) W l (cs.drop o) ∧ l.length = sz ∧ good l
theorem at_one {f : Field} {o sz : Nat} {good : List CV → Prop} (ho : f.offset = o) (hc : P.cellsOf f.type = sz) (hf : Opens P f.type sz good) : OpensAt P [f] o sz good := by
  intro H enc W spare held n cs hl h
  obtain ⟨y, hy, hq⟩ := h f List.mem_cons_self
  obtain ⟨a, hK, hg⟩ := hf H enc W spare held n _ y hy hq
  rw [ho, hc, List.take_of_length_le (by rw [List.length_drop]; omega)] at hK
  exact ⟨a, hK, hg⟩
theorem at_cons {f : Field} {fs : List Field} {o sz sz' : Nat} {good good' : List CV → Prop} (ho : f.offset = o) (hc : P.cellsOf f.type = sz) (hf : Opens P f.type sz good) (hfs : OpensAt P fs (o + sz) sz' good') :
    OpensAt P (f :: fs) o (sz + sz') (isP good good') := by
  intro H enc W spare held n cs hl h
  obtain ⟨y, hy, hq⟩ := h f List.mem_cons_self
  obtain ⟨a, hK, hs, hg⟩ := hf H enc W spare held n _ y hy hq
  obtain ⟨b, hK', hs', hg'⟩ := hfs H enc W spare held n cs (by rw [hl]; omega) (fun f' hf' => h f' (List.mem_cons_of_mem _ hf'))
  rw [ho, hc] at hK
  refine ⟨a ++ b, ?_, by simp [hs, hs'], a, b, rfl, hg, hg'⟩
  have := rks_append hK hK'
  rwa [← List.drop_drop, List.take_append_drop] at this
theorem opens_struct {T : TypeId} {fs : Array Field} {sz : Nat} {good : List CV → Prop} (ht : P.underlying T = some (.struct fs)) (hc : P.cellsOf T = sz) (hf : OpensAt P fs.toList 0 sz good) : Opens P T sz good := by
  intro H enc W spare held fuel cs x h hq
  obtain ⟨xs, n, _, rfl, hl, hlen, hget⟩ := DataW.trod_struct ht h
  obtain ⟨a, hK, hg⟩ := hf H enc W spare held n cs (by rw [hl, hc, Nat.zero_add]) (fun f hfm => by
    obtain ⟨i, hi, rfl⟩ := List.getElem_of_mem hfm
    have hi' : i < fs.size := by simpa using hi
    have h1 := hget i fs[i] (by simp [hi'])
    have hi2 : i < xs.length := by omega
    refine ⟨xs[i], by rw [← List.getElem?_eq_getElem hi2, ← h1]; simp, fun q hq1 => hq q ?_⟩
    simp only [DataW.weights, ht]
    refine DataW.weights_mem_each (j := i) (t := fs[i].type) (d := xs[i].1) ?_ ?_ q (by simpa using hq1)
    · simp [hi']
    · simp [hi2])
  exact ⟨a, by simpa using hK, hg⟩

/-- An argument of type T is a closed value that is good. -/
def OpA (P : Program) (T : TypeId) (good : CA → Prop) : Prop :=
  ∀ (H : Type) (enc : TypeId × Value → H) (W : World) (base : Nat) (v : Value) (d : DataW H) (ps : List MemPlace), DataW.Trod enc P W 0 (fun _ => true) true T v d ps → Value.okWide P W .any base T v → (∀ q ∈ DataW.weights P T d, q ≤ 140737488351232) →
    ∃ a : CA, RK (All W) W a v ∧ good a

theorem opA_one {T : TypeId} {good : List CV → Prop} (hn : ∀ fs, P.underlying T ≠ some (.struct fs)) (hn2 : ∀ n e, P.underlying T ≠ some (.array n e)) (h : Opens P T 1 good) : OpA P T (fun a => ∃ x, a = .one x ∧ good [x]) := by
  intro H enc W base v d ps ⟨fuel, hf⟩ hok hq
  obtain ⟨l, hl, hs, hg⟩ := h H enc W _ _ fuel _ _ hf hq
  match l, hs with
  | [x], _ =>
    refine ⟨.one x, ?_, x, rfl, hg⟩
    have hl1 : v.cells.toList.length = 1 := by rw [← hl.1]; rfl
    have hv : v.cells = #[v] := by
      unfold Value.okWide at hok
      split at hok
      · rename_i fs h0; exact absurd h0 (hn fs)
      · rename_i n e h0; exact absurd h0 (hn2 _ _)
      · unfold Cell.okWide Cell.ok at hok
        cases v <;> first | rfl | (exfalso; revert hok; split <;> simp_all)
    rw [hv] at hl
    exact hl.2 0 x v rfl rfl
theorem opA_agg {T : TypeId} {fs : Array Field} {sz : Nat} {good : List CV → Prop} (ht : P.underlying T = some (.struct fs)) (h : Opens P T sz good) : OpA P T (fun a => ∃ l, a = .agg l ∧ l.length = sz ∧ good l) := by
  intro H enc W base v d ps ⟨fuel, hf⟩ hok hq
  obtain ⟨l, hl, hs, hg⟩ := h H enc W _ _ fuel _ _ hf hq
  refine ⟨.agg l, ?_, l, rfl, hs, hg⟩
  obtain ⟨cs, rfl, _⟩ := okWide_struct ht hok
  exact ⟨cs.toList, by simp, hl⟩

/-- The arguments of a function. -/
def OpAll (P : Program) (ts : List TypeId) (good : List CA → Prop) : Prop :=
  ∀ (H : Type) (enc : TypeId × Value → H) (W : World) (base : Nat) (vs : List Value) (ds : List (DataW H)) (ps : List MemPlace), DataW.TrodAll enc P W 0 (fun _ => true) true ts vs ds ps →
    (∀ (j : Nat) t v, ts[j]? = some t → vs[j]? = some v → Value.okWide P W .any base t v) → (∀ (j : Nat) t d, ts[j]? = some t → ds[j]? = some d → ∀ q ∈ DataW.weights P t d, q ≤ 140737488351232) →
    ∃ l : List CA, RKL (All W) W l vs ∧ good l
theorem opAll_nil : OpAll P [] (fun l => l = []) := by
  intro H enc W base vs ds ps h _ _
  obtain ⟨rfl, _, _⟩ := trodAll_nil h
  exact ⟨[], ⟨rfl, fun j x y hx => by simp at hx⟩, rfl⟩
theorem opAll_cons {T : TypeId} {ts : List TypeId} {g : CA → Prop} {gs : List CA → Prop} (h : OpA P T g) (hs : OpAll P ts gs) : OpAll P (T :: ts) (fun l => ∃ a r, l = a :: r ∧ g a ∧ gs r) := by
  intro H enc W base vs ds ps ht hok hq
  obtain ⟨v, vs, d, ds, p, q, rfl, rfl, rfl, h0, r0⟩ := trodAll_cons ht
  obtain ⟨a, hK, hg⟩ := h H enc W base v d p h0 (hok 0 T v rfl rfl) (hq 0 T d rfl rfl)
  obtain ⟨l, hL, hgs⟩ := hs H enc W base vs ds q r0 (fun j t v h1 h2 => hok (j + 1) t v h1 h2) (fun j t v h1 h2 => hq (j + 1) t v h1 h2)
  refine ⟨a :: l, ⟨by simp [hL.1], fun j x y hx hy => ?_⟩, a, l, rfl, hg, hgs⟩
  cases j with
  | zero => cases hx; cases hy; exact hK
  | succ j => exact hL.2 j x y hx hy

/-- Old memory reads as it did. -/
theorem trodAll_stays {H : Type} {enc : TypeId × Value → H} (hl : laidOutB P = true) {W W' : World} (hb : ∀ b, b < W.heap.size → W'.heap[b]? = W.heap[b]?) :
    ∀ {ts : List TypeId} {vs : List Value} {ds : List (DataW H)} {ps : List MemPlace}, ts.all (fun t => P.readableRec t && decide (t < P.types.size)) = true → DataW.TrodAll enc P W 0 (fun _ => true) true ts vs ds ps →
      DataW.TrodAll enc P W' 0 (fun b => decide (b < W.heap.size)) true ts vs ds ps
  | [], vs, ds, ps, _, h => by
    obtain ⟨rfl, rfl, rfl⟩ := trodAll_nil h
    exact trodAll_mk0
  | t :: ts, vs, ds, ps, hr, h => by
    obtain ⟨v, vs, d, ds, p, q, rfl, rfl, rfl, h0, r0⟩ := trodAll_cons h
    simp only [List.all_cons, Bool.and_eq_true, decide_eq_true_eq] at hr
    have lt0 : ∀ x ∈ p, x.block < W.heap.size := by obtain ⟨m, hm⟩ := h0; exact DataW.trod_lt m _ _ _ hm
    refine trodAll_cons_mk (WideElems.Trod_stays hl hr.1.1 hr.1.2 h0 (fun x hx => ?_) (fun x hx => by simpa using lt0 x hx)) (trodAll_stays hl hb hr.2 r0)
    have hlt := lt0 x hx
    exact (Below.same (W := W) (w' := { W with heap := W'.heap }) ⟨rfl, rfl, rfl, by
      rcases Nat.lt_or_ge W'.heap.size W.heap.size with h1 | h1
      · have := hb W'.heap.size h1
        rw [Array.getElem?_eq_none (Nat.le_refl _), Array.getElem?_eq_getElem h1] at this
        cases this
      · exact h1, hb⟩ hlt : W.sameAt { W with heap := W'.heap } x)

theorem kept_of {W W' : World} (hk : Stl W W') (hb : ∀ b, b < W.heap.size → W'.heap[b]? = W.heap[b]?) (may : MemPlace → Prop) : W.keptBut W' may := by
  refine ⟨hk.1.1, hk.2.1, fun i hi => ?_⟩
  rw [hb i hi]
  split <;> simp_all

/-- WHAT A FUNCTION TELLS of whatever arguments. -/
theorem lift_law {T : Tab} (hT : PuOk P T) {f : FuncId} {ts : List TypeId} {good : List CA → Prop} (hl : laidOutB P = true) (hr : ts.all (fun t => P.readableRec t && decide (t < P.types.size)) = true) (ho : OpAll P ts good)
    {r : CA} (hp : ∀ l, good l → T.pu f l = some r) {H : Type} {enc : TypeId × Value → H} {W : World} {base : Nat} {args : Array Value} {ds : List (DataW H)} {ps : List MemPlace} (ht : DataW.TrodAll enc P W 0 (fun _ => true) true ts args.toList ds ps)
    (hok : ∀ (j : Nat) t v, ts[j]? = some t → args[j]? = some v → Value.okWide P W .any base t v) (hq : ∀ (j : Nat) t d, ts[j]? = some t → ds[j]? = some d → ∀ q ∈ DataW.weights P t d, q ≤ 140737488351232) (hTb : Tabs W.heap.size W) :
    Calls P f args W fun e W' => ∃ v I', e = .returned v ∧ RK I' W' r v ∧ Stl W W' ∧ (∀ b, b < W.heap.size → W'.heap[b]? = W.heap[b]?) ∧ DataW.TrodAll enc P W' 0 (fun b => decide (b < W.heap.size)) true ts args.toList ds ps := by
  obtain ⟨l, hL, hg⟩ := ho H enc W base args.toList ds ps ht (fun j t v h1 h2 => hok j t v h1 (by simpa using h2)) hq
  obtain ⟨_, hc⟩ := hT f l r (hp l hg)
  have := hc (All W) W args.toList (fun _ h => h) hTb hL
  refine (show Calls P f args W _ from this).mono fun e W' he => ?_
  obtain ⟨v, I', rfl, _, _, _, _, hb, hk, hR⟩ := he
  exact ⟨v, I', rfl, hR, hk, hb, trodAll_stays hl hb hr ht⟩

theorem trodAll_len {H : Type} {enc : TypeId × Value → H} {W : World} {base : Nat} {spare : Nat → Bool} {held : Bool} : ∀ {ts : List TypeId} {vs : List Value} {ds : List (DataW H)} {ps : List MemPlace}, DataW.TrodAll enc P W base spare held ts vs ds ps → ds.length = ts.length
  | [], vs, ds, ps, h => by
    obtain ⟨_, rfl, _⟩ := trodAll_nil h
    rfl
  | t :: ts, vs, ds, ps, h => by
    obtain ⟨v, vs, d, ds, p, q, rfl, rfl, rfl, _, r0⟩ := trodAll_cons h
    rw [List.length_cons, List.length_cons, trodAll_len r0]
theorem weights_of {H : Type} {ts us : List TypeId} {ds gs : List (DataW H)} (hsz : (DataW.weightsEach P (ts ++ us) (ds ++ gs)).all (· ≤ reachBytes) = true) (j : Nat) (t : TypeId) (d : DataW H) (ht : ts[j]? = some t) (hd : ds[j]? = some d) :
    ∀ q ∈ DataW.weights P t d, q ≤ 140737488351232 := by
  intro q hq
  have h1 : (ts ++ us)[j]? = some t := by rw [List.getElem?_append_left (List.getElem?_eq_some_iff.1 ht).1]; exact ht
  have h2 : (ds ++ gs)[j]? = some d := by rw [List.getElem?_append_left (List.getElem?_eq_some_iff.1 hd).1]; exact hd
  have h3 := of_decide_eq_true (List.all_eq_true.1 hsz q (DataW.weights_mem_each h1 h2 q hq))
  simpa [reachBytes] using h3

/-- A list of good parts is the list of what they tell. -/
theorem map_of {α : Type} {f : α → List CV} {g : α → Prop} : ∀ {L : List (List CV)}, (∀ e ∈ L, ∃ a, e = f a ∧ g a) → ∃ xs : List α, L = xs.map f ∧ ∀ x ∈ xs, g x
  | [], _ => ⟨[], rfl, by simp⟩
  | e :: L, h => by
    obtain ⟨a, rfl, ha⟩ := h e List.mem_cons_self
    obtain ⟨xs, rfl, hx⟩ := map_of (L := L) fun e he => h e (List.mem_cons_of_mem _ he)
    exact ⟨a :: xs, rfl, fun x hx' => (List.mem_cons.1 hx').elim (fun h => h ▸ ha) (hx x)⟩

end Go.Proofs.Vm
end

section
/- How data of the laws' parameter types open as closed values. -/
namespace Go.Proofs.YtonkhpeahbjmmaaDoorF
open Go Go.Proofs.Vm
def good53 : List CV → Prop := isL 1 1 (isB)
theorem opens53 : Opens Tryd.prog 53 1 good53 := opens_slice Tryd.underlying53 (by kernel_rfl) (by decide) (by kernel_rfl) (opens_bool Tryd.underlying4)
def good48 : List CV → Prop := isL 1 24 (good53)
theorem opens48 : Opens Tryd.prog 48 1 good48 := opens_slice Tryd.underlying48 (by kernel_rfl) (by decide) (by kernel_rfl) opens53
def good50 : List CV → Prop := isP (isI .u64) ((good48))
theorem opens50 : Opens Tryd.prog 50 2 good50 := opens_struct Tryd.underlying50 (by kernel_rfl) (at_cons (sz := 1) (sz' := 1) rfl (by kernel_rfl) (opens_int Tryd.underlying22) (at_one (sz := 1) rfl (by kernel_rfl) opens48))
def good52 : List CV → Prop := isP (good50) (isP (isS) ((isI .i64)))
theorem opens52 : Opens Tryd.prog 52 4 good52 := opens_struct Tryd.underlying52 (by kernel_rfl) (at_cons (sz := 2) (sz' := 2) rfl (by kernel_rfl) opens50 (at_cons (sz := 1) (sz' := 1) rfl (by kernel_rfl) (opens_string Tryd.underlying9) (at_one (sz := 1) rfl (by kernel_rfl) (opens_int Tryd.underlying3))))
def good47 : List CV → Prop := isL 4 56 (good52)
theorem opens47 : Opens Tryd.prog 47 1 good47 := opens_slice Tryd.underlying47 (by kernel_rfl) (by decide) (by kernel_rfl) opens52
def good23 : List CV → Prop := isL 1 24 (good47)
theorem opens23 : Opens Tryd.prog 23 1 good23 := opens_slice Tryd.underlying23 (by kernel_rfl) (by decide) (by kernel_rfl) opens47
def good25 : List CV → Prop := isP (isI .u64) ((good23))
theorem opens25 : Opens Tryd.prog 25 2 good25 := opens_struct Tryd.underlying25 (by kernel_rfl) (at_cons (sz := 1) (sz' := 1) rfl (by kernel_rfl) (opens_int Tryd.underlying22) (at_one (sz := 1) rfl (by kernel_rfl) opens23))
def good56 : List CV → Prop := isP (isI .u64) (isP (isI .i64) (isP (isI .i64) (isP (isI .i64) ((isI .i64)))))
theorem opens56 : Opens Tryd.prog 56 5 good56 := opens_struct Tryd.underlying56 (by kernel_rfl) (at_cons (sz := 1) (sz' := 4) rfl (by kernel_rfl) (opens_int Tryd.underlying22) (at_cons (sz := 1) (sz' := 3) rfl (by kernel_rfl) (opens_int Tryd.underlying3) (at_cons (sz := 1) (sz' := 2) rfl (by kernel_rfl) (opens_int Tryd.underlying3) (at_cons (sz := 1) (sz' := 1) rfl (by kernel_rfl) (opens_int Tryd.underlying3) (at_one (sz := 1) rfl (by kernel_rfl) (opens_int Tryd.underlying3))))))
def good63 : List CV → Prop := isP (isS) ((isS))
theorem opens63 : Opens Tryd.prog 63 2 good63 := opens_struct Tryd.underlying63 (by kernel_rfl) (at_cons (sz := 1) (sz' := 1) rfl (by kernel_rfl) (opens_string Tryd.underlying9) (at_one (sz := 1) rfl (by kernel_rfl) (opens_string Tryd.underlying9)))
def good57 : List CV → Prop := isL 2 32 (good63)
theorem opens57 : Opens Tryd.prog 57 1 good57 := opens_slice Tryd.underlying57 (by kernel_rfl) (by decide) (by kernel_rfl) opens63
def good66 : List CV → Prop := isL 1 16 (isS)
theorem opens66 : Opens Tryd.prog 66 1 good66 := opens_slice Tryd.underlying66 (by kernel_rfl) (by decide) (by kernel_rfl) (opens_string Tryd.underlying9)
def goodsSpreadTurns : List CA → Prop := (fun l => ∃ a r, l = a :: r ∧ (fun a => ∃ l, a = .agg l ∧ l.length = 2 ∧ good25 l) a ∧ (fun l => ∃ a r, l = a :: r ∧ (fun a => ∃ x, a = .one x ∧ isS [x]) a ∧ (fun l => ∃ a r, l = a :: r ∧ (fun a => ∃ x, a = .one x ∧ isS [x]) a ∧ (fun l => ∃ a r, l = a :: r ∧ (fun a => ∃ x, a = .one x ∧ isI .i64 [x]) a ∧ (fun l => l = []) r) r) r) r)
theorem opensSpreadTurns : OpAll Tryd.prog [25, 9, 9, 3] goodsSpreadTurns := (opAll_cons (opA_agg Tryd.underlying25 opens25) (opAll_cons (opA_one (fun _ h => by rw [Tryd.underlying9] at h; cases h) (fun _ _ h => by rw [Tryd.underlying9] at h; cases h) (opens_string Tryd.underlying9)) (opAll_cons (opA_one (fun _ h => by rw [Tryd.underlying9] at h; cases h) (fun _ _ h => by rw [Tryd.underlying9] at h; cases h) (opens_string Tryd.underlying9)) (opAll_cons (opA_one (fun _ h => by rw [Tryd.underlying3] at h; cases h) (fun _ _ h => by rw [Tryd.underlying3] at h; cases h) (opens_int Tryd.underlying3)) opAll_nil))))
def goodsSpreadNews : List CA → Prop := (fun l => ∃ a r, l = a :: r ∧ (fun a => ∃ x, a = .one x ∧ isI .u64 [x]) a ∧ (fun l => ∃ a r, l = a :: r ∧ (fun a => ∃ x, a = .one x ∧ isI .i64 [x]) a ∧ (fun l => ∃ a r, l = a :: r ∧ (fun a => ∃ x, a = .one x ∧ isI .i64 [x]) a ∧ (fun l => ∃ a r, l = a :: r ∧ (fun a => ∃ x, a = .one x ∧ isI .i64 [x]) a ∧ (fun l => ∃ a r, l = a :: r ∧ (fun a => ∃ x, a = .one x ∧ isI .i64 [x]) a ∧ (fun l => l = []) r) r) r) r) r)
theorem opensSpreadNews : OpAll Tryd.prog [22, 3, 3, 3, 3] goodsSpreadNews := (opAll_cons (opA_one (fun _ h => by rw [Tryd.underlying22] at h; cases h) (fun _ _ h => by rw [Tryd.underlying22] at h; cases h) (opens_int Tryd.underlying22)) (opAll_cons (opA_one (fun _ h => by rw [Tryd.underlying3] at h; cases h) (fun _ _ h => by rw [Tryd.underlying3] at h; cases h) (opens_int Tryd.underlying3)) (opAll_cons (opA_one (fun _ h => by rw [Tryd.underlying3] at h; cases h) (fun _ _ h => by rw [Tryd.underlying3] at h; cases h) (opens_int Tryd.underlying3)) (opAll_cons (opA_one (fun _ h => by rw [Tryd.underlying3] at h; cases h) (fun _ _ h => by rw [Tryd.underlying3] at h; cases h) (opens_int Tryd.underlying3)) (opAll_cons (opA_one (fun _ h => by rw [Tryd.underlying3] at h; cases h) (fun _ _ h => by rw [Tryd.underlying3] at h; cases h) (opens_int Tryd.underlying3)) opAll_nil)))))
def goodsSpreadSeen : List CA → Prop := (fun l => ∃ a r, l = a :: r ∧ (fun a => ∃ l, a = .agg l ∧ l.length = 5 ∧ good56 l) a ∧ (fun l => ∃ a r, l = a :: r ∧ (fun a => ∃ x, a = .one x ∧ good57 [x]) a ∧ (fun l => ∃ a r, l = a :: r ∧ (fun a => ∃ x, a = .one x ∧ isI .i64 [x]) a ∧ (fun l => l = []) r) r) r)
theorem opensSpreadSeen : OpAll Tryd.prog [56, 57, 3] goodsSpreadSeen := (opAll_cons (opA_agg Tryd.underlying56 opens56) (opAll_cons (opA_one (fun _ h => by rw [Tryd.underlying57] at h; cases h) (fun _ _ h => by rw [Tryd.underlying57] at h; cases h) opens57) (opAll_cons (opA_one (fun _ h => by rw [Tryd.underlying3] at h; cases h) (fun _ _ h => by rw [Tryd.underlying3] at h; cases h) (opens_int Tryd.underlying3)) opAll_nil)))
def goodsSpreadLeast : List CA → Prop := (fun l => ∃ a r, l = a :: r ∧ (fun a => ∃ l, a = .agg l ∧ l.length = 5 ∧ good56 l) a ∧ (fun l => ∃ a r, l = a :: r ∧ (fun a => ∃ x, a = .one x ∧ good57 [x]) a ∧ (fun l => ∃ a r, l = a :: r ∧ (fun a => ∃ x, a = .one x ∧ isS [x]) a ∧ (fun l => ∃ a r, l = a :: r ∧ (fun a => ∃ x, a = .one x ∧ isI .u8 [x]) a ∧ (fun l => l = []) r) r) r) r)
theorem opensSpreadLeast : OpAll Tryd.prog [56, 57, 9, 5] goodsSpreadLeast := (opAll_cons (opA_agg Tryd.underlying56 opens56) (opAll_cons (opA_one (fun _ h => by rw [Tryd.underlying57] at h; cases h) (fun _ _ h => by rw [Tryd.underlying57] at h; cases h) opens57) (opAll_cons (opA_one (fun _ h => by rw [Tryd.underlying9] at h; cases h) (fun _ _ h => by rw [Tryd.underlying9] at h; cases h) (opens_string Tryd.underlying9)) (opAll_cons (opA_one (fun _ h => by rw [Tryd.underlying5] at h; cases h) (fun _ _ h => by rw [Tryd.underlying5] at h; cases h) (opens_int Tryd.underlying5)) opAll_nil))))
def goodsSpreadAlone : List CA → Prop := (fun l => ∃ a r, l = a :: r ∧ (fun a => ∃ l, a = .agg l ∧ l.length = 5 ∧ good56 l) a ∧ (fun l => ∃ a r, l = a :: r ∧ (fun a => ∃ x, a = .one x ∧ isS [x]) a ∧ (fun l => ∃ a r, l = a :: r ∧ (fun a => ∃ x, a = .one x ∧ good66 [x]) a ∧ (fun l => l = []) r) r) r)
theorem opensSpreadAlone : OpAll Tryd.prog [56, 9, 66] goodsSpreadAlone := (opAll_cons (opA_agg Tryd.underlying56 opens56) (opAll_cons (opA_one (fun _ h => by rw [Tryd.underlying9] at h; cases h) (fun _ _ h => by rw [Tryd.underlying9] at h; cases h) (opens_string Tryd.underlying9)) (opAll_cons (opA_one (fun _ h => by rw [Tryd.underlying66] at h; cases h) (fun _ _ h => by rw [Tryd.underlying66] at h; cases h) opens66) opAll_nil)))
def goodsSpreadOrder : List CA → Prop := (fun l => ∃ a r, l = a :: r ∧ (fun a => ∃ l, a = .agg l ∧ l.length = 5 ∧ good56 l) a ∧ (fun l => ∃ a r, l = a :: r ∧ (fun a => ∃ x, a = .one x ∧ good57 [x]) a ∧ (fun l => ∃ a r, l = a :: r ∧ (fun a => ∃ x, a = .one x ∧ isS [x]) a ∧ (fun l => l = []) r) r) r)
theorem opensSpreadOrder : OpAll Tryd.prog [56, 57, 9] goodsSpreadOrder := (opAll_cons (opA_agg Tryd.underlying56 opens56) (opAll_cons (opA_one (fun _ h => by rw [Tryd.underlying57] at h; cases h) (fun _ _ h => by rw [Tryd.underlying57] at h; cases h) opens57) (opAll_cons (opA_one (fun _ h => by rw [Tryd.underlying9] at h; cases h) (fun _ _ h => by rw [Tryd.underlying9] at h; cases h) (opens_string Tryd.underlying9)) opAll_nil)))
end Go.Proofs.YtonkhpeahbjmmaaDoorF
end

section
/- Each function's run over the program's whole table. -/
namespace Go.Proofs.YtonkhpeahbjmmaaDoorP
open Go Go.Proofs.Vm Go.Proofs.YtonkhpeahbjmmaaDoorF
def cfg : Cfg := ⟨shF, neF, cmpTab 36⟩
noncomputable def TV : Tab := TT Tryd.prog cfg
theorem run33 {args : List CA} {r : CA} (hl : args.length ≤ 17) (h : wpV Tryd.prog TV ⟨17, shF, false⟩ (Tryd.f33.body.getD .skip) (endK Tryd.prog Tryd.f33.results.toList r) ⟨env0 args, []⟩) : TV.pu 33 args = some r := TT_go (N := ⟨17, shF, false⟩) Tryd.func33 (by kernel_rfl) ok33 (by kernel_rfl) (by kernel_rfl) (fun _ => rfl) hl h -- rillmeter/spread.List$1
theorem run34 {args : List CA} {r : CA} (hl : args.length ≤ 18) (h : wpV Tryd.prog TV ⟨18, shF, false⟩ (Tryd.f34.body.getD .skip) (endK Tryd.prog Tryd.f34.results.toList r) ⟨env0 args, []⟩) : TV.pu 34 args = some r := TT_go (N := ⟨18, shF, false⟩) Tryd.func34 (by kernel_rfl) ok34 (by kernel_rfl) (by kernel_rfl) (fun _ => rfl) hl h -- cmp.Or[int]
theorem run35 {args : List CA} {r : CA} (hl : args.length ≤ 20) (h : wpV Tryd.prog TV ⟨20, shF, false⟩ (Tryd.f35.body.getD .skip) (endK Tryd.prog Tryd.f35.results.toList r) ⟨env0 args, []⟩) : TV.pu 35 args = some r := TT_go (N := ⟨20, shF, false⟩) Tryd.func35 (by kernel_rfl) ok35 (by kernel_rfl) (by kernel_rfl) (fun _ => rfl) hl h -- cmp.Compare[int]
theorem run60 {args : List CA} {r : CA} (hl : args.length ≤ 6) (h : wpV Tryd.prog TV ⟨6, shF, false⟩ (Tryd.f60.body.getD .skip) (endK Tryd.prog Tryd.f60.results.toList r) ⟨env0 args, []⟩) : TV.pu 60 args = some r := TT_go (N := ⟨6, shF, false⟩) Tryd.func60 (by kernel_rfl) ok60 (by kernel_rfl) (by kernel_rfl) (fun _ => rfl) hl h -- cmp.isNaN[int]
end Go.Proofs.YtonkhpeahbjmmaaDoorP
end

section
/- Maps from strings to numbers, with their stamps, told as they are used. -/
namespace Go.Proofs.Vm
open Go

variable {P : Program}

/-! Maps from strings to numbers. -/
def mget (k : ByteArray) : SM → Option Int
  | [] => none
  | p :: r => if k = p.1 then some p.2 else mget k r
def mput (k : ByteArray) (v : Int) (m : SM) : SM := match mIx k m with
  | some j => m.set j (k, v)
  | none => m ++ [(k, v)]
def mdel (k : ByteArray) (m : SM) : SM := match mIx k m with
  | some j => m.eraseIdx j
  | none => m

/-- A map with its stamps, and the next stamp. -/
structure MS where
  m : SM
  b : List Int
  ck : Nat
structure MS.Ok (M : MS) : Prop where
  len : M.b.length = M.m.length
  nd : M.b.Nodup
  lt : ∀ x ∈ M.b, x < (M.ck : Int)
def MS.ent (M : MS) : Ent := .mp (M.ck, cM M.m M.b)
def MS.put (M : MS) (k : ByteArray) (v : Int) : MS := match mIx k M.m with
  | some _ => ⟨mput k v M.m, M.b, M.ck⟩
  | none => ⟨mput k v M.m, M.b ++ [(M.ck : Int)], M.ck + 1⟩
def MS.del (M : MS) (k : ByteArray) : MS := match mIx k M.m with
  | some j => ⟨mdel k M.m, M.b.eraseIdx j, M.ck⟩
  | none => M
def MS.stamp (M : MS) (k : ByteArray) : Int := match mIx k M.m with
  | some j => M.b[j]?.getD 0
  | none => 0
def MS.empty : MS := ⟨[], [], 0⟩
theorem MS.empty_ok : MS.empty.Ok := ⟨rfl, List.nodup_nil, fun x h => by cases h⟩
theorem MS.empty_ent : MS.empty.ent = .mp (0, []) := rfl
@[simp] theorem MS.put_m (M : MS) (k : ByteArray) (v : Int) : (M.put k v).m = mput k v M.m := by unfold MS.put; split <;> rfl
@[simp] theorem MS.del_m (M : MS) (k : ByteArray) : (M.del k).m = mdel k M.m := by
  unfold MS.del
  split
  · rfl
  · rename_i h; unfold mdel; rw [h]

theorem mIx_lt {k : ByteArray} : ∀ {m : SM} {j : Nat}, mIx k m = some j → ∃ h : j < m.length, m[j].1 = k ∧ mget k m = some m[j].2
  | [], j, h => by cases h
  | p :: r, j, h => by
    unfold mIx at h
    by_cases hk : k = p.1
    · rw [if_pos hk] at h
      cases h
      exact ⟨Nat.succ_pos _, hk.symm, by show mget k (p :: r) = some p.2; unfold mget; rw [if_pos hk]⟩
    · rw [if_neg hk] at h
      cases hr : mIx k r with
      | none => rw [hr] at h; cases h
      | some i =>
        rw [hr] at h
        cases h
        obtain ⟨h1, h2, h3⟩ := mIx_lt hr
        exact ⟨Nat.succ_lt_succ h1, h2, by unfold mget; rw [if_neg hk]; exact h3⟩
theorem mIx_no {k : ByteArray} : ∀ {m : SM}, mIx k m = none → mget k m = none
  | [], _ => rfl
  | p :: r, h => by
    unfold mIx at h
    by_cases hk : k = p.1
    · rw [if_pos hk] at h; cases h
    · rw [if_neg hk] at h
      unfold mget
      rw [if_neg hk]
      exact mIx_no (Option.map_eq_none_iff.1 h)

theorem MS.put_ok {M : MS} (h : M.Ok) (k : ByteArray) (v : Int) : (M.put k v).Ok := by
  unfold MS.put
  split
  · rename_i j hj
    exact ⟨by show M.b.length = (mput k v M.m).length; unfold mput; rw [hj]; simp [h.len], h.nd, h.lt⟩
  · rename_i hj
    refine ⟨by show (M.b ++ [(M.ck : Int)]).length = (mput k v M.m).length; unfold mput; rw [hj]; simp [h.len], ?_, ?_⟩
    · refine List.nodup_append.2 ⟨h.nd, by simp, ?_⟩
      intro x hx y hy
      have hy : y = (M.ck : Int) := by simpa using hy
      have := h.lt x hx
      omega
    · intro x hx
      show x < ((M.ck + 1 : Nat) : Int)
      rcases List.mem_append.1 hx with hx | hx
      · have := h.lt x hx; omega
      · have : x = (M.ck : Int) := by simpa using hx
        omega
theorem MS.del_ok {M : MS} (h : M.Ok) (k : ByteArray) : (M.del k).Ok := by
  unfold MS.del
  split
  · rename_i j hj
    obtain ⟨hl, _, _⟩ := mIx_lt hj
    refine ⟨?_, h.nd.sublist (List.eraseIdx_sublist _ _), fun x hx => h.lt x ((List.eraseIdx_sublist _ _).subset hx)⟩
    show (M.b.eraseIdx j).length = (mdel k M.m).length
    unfold mdel
    rw [hj]
    show (M.b.eraseIdx j).length = (M.m.eraseIdx j).length
    rw [List.length_eraseIdx, List.length_eraseIdx, h.len]
  · exact h

theorem cM_set : ∀ {m : SM} {b : List Int} {j : Nat} (k : ByteArray) (v : Int), b.length = m.length → ∀ h : j < m.length, m[j].1 = k →
    (cM m b).modify j (fun p => (.string k, .v (.int .i64 v) :: p.2.drop 1)) = cM (m.set j (k, v)) b ∧ (cM m b).modify j (fun p => (p.1, .v (.int .i64 v) :: p.2.drop 1)) = cM (m.set j (k, v)) b ∧ (cM m b).modify j (fun p => (.string k, p.2)) = cM m b
  | [], _, _, _, _, _, h, _ => by simp at h
  | p :: r, [], _, _, _, h, _, _ => by simp at h
  | p :: r, b :: bs, 0, k, v, _, _, hk => by
    have hk : p.1 = k := hk
    subst hk
    exact ⟨rfl, rfl, rfl⟩
  | p :: r, b :: bs, j + 1, k, v, hl, h, hk => by
    obtain ⟨h1, h2, h3⟩ := cM_set (m := r) (b := bs) (j := j) k v (by simpa using hl) (by simpa using h) hk
    refine ⟨?_, ?_, ?_⟩
    · show _ :: (cM r bs).modify j _ = _; rw [h1]; rfl
    · show _ :: (cM r bs).modify j _ = _; rw [h2]; rfl
    · show _ :: (cM r bs).modify j _ = _; rw [h3]; rfl
theorem cM_app : ∀ {m : SM} {b : List Int} (k : ByteArray) (v x : Int), b.length = m.length → cM m b ++ [(.string k, [.v (.int .i64 v), .v (.int .i64 x)])] = cM (m ++ [(k, v)]) (b ++ [x])
  | [], [], _, _, _, _ => rfl
  | [], b :: bs, _, _, _, h => by simp at h
  | p :: r, [], _, _, _, h => by simp at h
  | p :: r, b :: bs, k, v, x, h => by
    show _ :: (cM r bs ++ _) = _
    rw [cM_app k v x (by simpa using h)]
    rfl
theorem cM_erase : ∀ {m : SM} {b : List Int} (j : Nat), b.length = m.length → (cM m b).eraseIdx j = cM (m.eraseIdx j) (b.eraseIdx j)
  | [], [], _, _ => rfl
  | [], b :: bs, _, h => by simp at h
  | p :: r, [], _, h => by simp at h
  | p :: r, b :: bs, 0, _ => rfl
  | p :: r, b :: bs, j + 1, h => by
    show _ :: (cM r bs).eraseIdx j = _
    rw [cM_erase j (by simpa using h)]
    rfl
theorem cM_stamp : ∀ {m : SM} {b : List Int} {j : Nat} (_hl : b.length = m.length) (_ : b.Nodup) (h : j < b.length), (cM m b).findIdx? (stampIs b[j]) = some j
  | [], b, j, hl, _, h => by simp at hl; subst hl; simp at h
  | p :: r, [], j, _, _, h => by simp at h
  | p :: r, b :: bs, 0, _, _, _ => by
    show ((Value.string p.1, [CV.v (.int .i64 p.2), .v (.int .i64 b)]) :: cM r bs).findIdx? _ = _
    rw [List.findIdx?_cons, if_pos (by show (b == b) = true; simp)]
  | p :: r, b :: bs, j + 1, hl, hn, h => by
    have hj : j < bs.length := by simpa using h
    have hne : b ≠ bs[j] := fun e => (List.nodup_cons.1 hn).1 (e ▸ List.getElem_mem hj)
    show ((Value.string p.1, [CV.v (.int .i64 p.2), .v (.int .i64 b)]) :: cM r bs).findIdx? (stampIs bs[j]) = _
    rw [List.findIdx?_cons, if_neg (by show ¬ (b == bs[j]) = true; simpa using hne), cM_stamp (by simpa using hl) (List.nodup_cons.1 hn).2 hj]
    rfl

section
variable {H : Hp} {t : TypeId} {mi : Nat} {M : MS} {k : ByteArray} {v : Int}

theorem mapAt_eq (h : H[mi]? = some M.ent) : mapAt H (.one (.mp mi)) = some (mi, (M.ck, cM M.m M.b)) := by simp only [mapAt, h, MS.ent]
theorem lk_eq (ht : mapTy P t = some (.string, .int .i64 0)) (ok : M.Ok) (h : H[mi]? = some M.ent) :
    vlookup P H t (.one (.mp mi)) (.one (.c (.v (.string k)))) true = qa (.tup [(false, [.c (.v (.int .i64 ((mget k M.m).getD 0)))]), (false, [.c (.v (.bool (mget k M.m).isSome))])]) := by
  unfold vlookup
  rw [ht, mapAt_eq h]
  have sc : (AV.one (.c (.v (.string k)))).sc = some (.string k) := rfl
  have kd : kindOk .string (.string k) = true := rfl
  simp only [sc, kd, if_true]
  rw [find_cM k M.m M.b ok.len]
  cases hj : mIx k M.m with
  | none => simp only [mIx_no hj]; rfl
  | some j =>
    obtain ⟨hl, _, hg⟩ := mIx_lt hj
    simp only [cM_get M.m M.b j hl (by rw [ok.len]; exact hl), hg]
    rfl
theorem mu_eq (ht : mapTy P t = some (.string, .int .i64 0)) (ok : M.Ok) (h : H[mi]? = some M.ent) :
    vmapUpdate P H t (.one (.mp mi)) (.one (.c (.v (.string k)))) (.one (.c (.v (.int .i64 v)))) = some (und, H.set mi (M.put k v).ent) := by
  unfold vmapUpdate
  rw [ht, mapAt_eq h]
  have sc : (AV.one (.c (.v (.string k)))).sc = some (.string k) := rfl
  have kd : kindOk .string (.string k) = true := rfl
  simp only [sc, kd, if_true]
  rw [find_cM k M.m M.b ok.len]
  simp only [MS.put, mput, MS.ent]
  cases hj : mIx k M.m with
  | none =>
    simp only [putM, cM_app k v M.ck ok.len]
  | some j =>
    obtain ⟨hl, hk, _⟩ := mIx_lt hj
    simp only [putM, (cM_set k v ok.len hl hk).1]
theorem md_eq (ht : mapTy P t = some (.string, .int .i64 0)) (ok : M.Ok) (h : H[mi]? = some M.ent) :
    vdelete P H t (.one (.mp mi)) (.one (.c (.v (.string k)))) = some (und, H.set mi (M.del k).ent) := by
  unfold vdelete
  rw [ht, mapAt_eq h]
  have sc : (AV.one (.c (.v (.string k)))).sc = some (.string k) := rfl
  have kd : kindOk .string (.string k) = true := rfl
  simp only [sc, kd, if_true]
  rw [find_cM k M.m M.b ok.len]
  cases hj : mIx k M.m with
  | none => simp only [MS.del, hj, MS.ent]
  | some j =>
    simp only [MS.del, hj, mdel, MS.ent, cM_erase j ok.len]
theorem me_eq (ht : mapTy P t = some (.string, .int .i64 0)) (ok : M.Ok) (h : H[mi]? = some M.ent) (hg : (mget k M.m).isSome = true) :
    vmapEntry P H t (.one (.mp mi)) (.one (.c (.v (.string k)))) = some (.tup [(false, [.c (.v (.int .i64 ((mget k M.m).getD 0)))]), (false, [.c (.v (.int .i64 (M.stamp k)))])], H) := by
  unfold vmapEntry
  rw [ht, mapAt_eq h]
  have sc : (AV.one (.c (.v (.string k)))).sc = some (.string k) := rfl
  have kd : kindOk .string (.string k) = true := rfl
  simp only [sc, kd, if_true]
  rw [find_cM k M.m M.b ok.len]
  cases hj : mIx k M.m with
  | none => rw [mIx_no hj] at hg; cases hg
  | some j =>
    obtain ⟨hl, hk, hg'⟩ := mIx_lt hj
    have hb : j < M.b.length := by rw [ok.len]; exact hl
    simp only [cM_get M.m M.b j hl hb, (cM_set k 0 ok.len hl hk).2.2, hg', MS.stamp, hj, List.getElem?_eq_getElem hb]
    rw [set_same (e := .mp (M.ck, cM M.m M.b)) h]
    rfl
theorem es_eq (ok : M.Ok) (h : H[mi]? = some M.ent) (hg : (mget k M.m).isSome = true) :
    ventryStore H (.one (.mp mi)) (.one (.c (.v (.int .i64 (M.stamp k))))) (.one (.c (.v (.int .i64 v)))) = some (und, H.set mi (M.put k v).ent) := by
  unfold ventryStore
  rw [mapAt_eq h]
  cases hj : mIx k M.m with
  | none => rw [mIx_no hj] at hg; cases hg
  | some j =>
    obtain ⟨hl, hk, hg'⟩ := mIx_lt hj
    have hb : j < M.b.length := by rw [ok.len]; exact hl
    have hs : M.stamp k = M.b[j] := by simp only [MS.stamp, hj, List.getElem?_eq_getElem hb]; rfl
    simp only [MS.ent, hs, cM_stamp ok.len ok.nd hb, (cM_set k v ok.len hl hk).2.1, MS.put, mput, hj]
theorem ml_eq {ty : TypeId} (ht : isMapT P t = true) (ok : M.Ok) (h : H[mi]? = some M.ent) : vlen P H #[t] ty (.one (.mp mi)) = qa (.one (.c (.v (.int .i64 M.m.length)))) := by
  have e1 := mapAt_eq h
  unfold vlen
  simp only [show (#[t] : Array TypeId)[0]? = some t from rfl, e1, ht, if_true, cM_len M.m M.b ok.len]
  rfl
end

end Go.Proofs.Vm
end

section
/- Small laws of the machine's numbers. -/
namespace Go.Proofs.Vm
open Go

variable {P : Program} {H : Hp}

theorem w64_id {x : Int} (h0 : -9223372036854775808 ≤ x) (h1 : x < 9223372036854775808) : IntKind.i64.wrap x = x := by rw [IntKind.wrap_i64]; omega
theorem bin_half {t : TypeId} {x y : Operand} {k : Nat} (h : k < 9223372036854775808) : vbin P H .quo t x y (vI .i64 (k : Int)) (vI .i64 2) = qa (vI .i64 ((k / 2 : Nat) : Int)) := by
  rw [bin_quo (by decide)]
  have e : (k : Int).tdiv 2 = ((k / 2 : Nat) : Int) := by rw [Int.tdiv_eq_ediv_of_nonneg (by omega)]; omega
  rw [e, w64_id (by omega) (by omega)]
theorem hq_gete (K : Hp) (a b c : Nat) (x y z : Ent) (L : Hp) (j : Nat) (h : K.length + j < (hq K a b c x y z L).length) : (hq K a b c x y z L)[K.length + j]'h = L[j]'(by rw [hq_len] at h; omega) := by
  have h1 := hq_get K a b c x y z L j
  have hj : j < L.length := by rw [hq_len] at h; omega
  rw [List.getElem?_eq_getElem h, List.getElem?_eq_getElem hj] at h1
  exact Option.some.inj h1
@[simp] theorem isNil_ptr {p : Option Addr} : isNil (.const (.pointer p)) = false := rfl
theorem bin_pne {t e : TypeId} (hu : pv P (underlying t) = some (.pointer e)) {x y : Operand} {p : Pt} (hl : lenIs H p.id p.tot = true) : vbin P H .eql t x y (.one (.ptr p)) (.one (.c (.v (.pointer none)))) = qa (vB false) := by
  simp [-lenIs, vbin, vbin0, neSl, isNils, isPtr, isNilp, fresh, hl, hu, one?, Value.oneCell']
theorem bin_slo {t e : TypeId} (he : elemOfSlice P t = some e) {x y : Operand} {id o n tot : Nat} (hn : n ≠ 0) (hl : lenIs H id tot = true) : vbin P H .eql t x y (.one (.sl id o n tot)) (.one (.c (.v (.slice none 0 0)))) = qa (vB false) := by
  have hu : ∃ d, pv P (underlying t) = some (.slice d) := by
    unfold elemOfSlice at he
    split at he
    · rename_i d hd; exact ⟨_, hd⟩
    · cases he
  obtain ⟨d, hd⟩ := hu
  simp [-lenIs, vbin, neSl, isNils, okSl, hl, hn, hd, one?, Value.oneCell']
theorem eq_sl {t e : TypeId} (hu : pv P (underlying t) = some (.slice e)) (ad : Option Addr) (n c : Nat) (d : Nat) : pv P (Op.equalIn (d + 1) t (.slice ad n c) (.slice none 0 0)) = some ad.isNone := by
  unfold Op.equalIn
  cases ad <;> simp [hu]
theorem bin_slr {t e : TypeId} (he : elemOfSlice P t = some e) {x y : Operand} {ad : Option Addr} {n c : Nat} : vbin P H .eql t x y (.one (.c (.v (.slice ad n c)))) (.one (.c (.v (.slice none 0 0)))) = qa (vB ad.isNone) := by
  have hu : ∃ d, pv P (underlying t) = some (.slice d) := by
    unfold elemOfSlice at he
    split at he
    · rename_i d hd; exact ⟨_, hd⟩
    · cases he
  obtain ⟨d, hd⟩ := hu
  simp [vbin, vbin0, neSl, isNils, isPtr, isNilp, fresh, AV.sc, Cell.sc, eqGuard, binOp, ofPv, one?, Value.oneCell', Op.equal, Op.maxDepth, eq_sl hd ad n c 9999]
theorem eq_bool {t : TypeId} (hu : pv P (underlying t) = some .bool) (a b : Bool) (d : Nat) : pv P (Op.equalIn (d + 1) t (.bool a) (.bool b)) = some (a == b) := by
  unfold Op.equalIn
  simp [hu]
theorem eq_nil {t e : TypeId} (hu : pv P (underlying t) = some (.pointer e)) (d : Nat) : pv P (Op.equalIn (d + 1) t (.pointer none) (.pointer none)) = some true := by
  unfold Op.equalIn
  simp [hu]
theorem bin_pee {t e : TypeId} (hu : pv P (underlying t) = some (.pointer e)) {x y : Operand} : vbin P H .eql t x y (.one (.c (.v (.pointer none)))) (.one (.c (.v (.pointer none)))) = qa (vB true) := by
  simp [vbin, vbin0, neSl, isNils, isPtr, isNilp, fresh, AV.sc, Cell.sc, eqGuard, binOp, ofPv, one?, Value.oneCell', Op.equal, Op.maxDepth, eq_nil hu 9999]
theorem bin_bne {t : TypeId} (hu : pv P (underlying t) = some .bool) {x y : Operand} {a b : Bool} : vbin P H .neq t x y (vB a) (vB b) = qa (vB (a != b)) := by
  simp [vbin, vbin0, neSl, isNils, isPtr, isNilp, fresh, AV.sc, Cell.sc, eqGuard, binOp, ofPv, one?, Value.oneCell', Op.equal, Op.maxDepth, eq_bool hu a b 9999]
  rfl
theorem bin_beq {t : TypeId} (hu : pv P (underlying t) = some .bool) {x y : Operand} {a b : Bool} : vbin P H .eql t x y (vB a) (vB b) = qa (vB (a == b)) := by
  simp [vbin, vbin0, neSl, isNils, isPtr, isNilp, fresh, AV.sc, Cell.sc, eqGuard, binOp, ofPv, one?, Value.oneCell', Op.equal, Op.maxDepth, eq_bool hu a b 9999]
/-- The first so many of a row that does not change. -/
theorem slc_to {t e sz : Nat} (he : elemOfSlice P t = some e) (hs : pv P (sizeOf e) = some sz) {xs : List (List CV)} {nid k : Nat} (h1 : k ≤ xs.length) (hx : AllLen xs sz) : vslice P H nid t (.one (.c (.arr xs))) none (some (vI .i64 (k : Int))) none = qa (.one (.c (.arr (xs.take k)))) := by
  have h2 : (k : Int) ≤ xs.length := by omega
  unfold vslice
  simp only [he, hs, optInt, Option.getD_none, Option.getD_some]
  rw [if_pos ⟨Int.le_refl _, by omega, h2, hx⟩]
  simp
end Go.Proofs.Vm
end

section
/- The order of items, over the first table (before the sort is known) and over the whole one. -/
namespace Go.Proofs.YtonkhpeahbjmmaaDoorP
open Go Go.Proofs.Vm Go.Proofs.YtonkhpeahbjmmaaDoorF

theorem isNaN (x : Int) : TV.pu 60 [cI .i64 x] = some (cB false) := by
  refine run60 (by simp) ?_
  simp -implicitDefEqProofs [Tryd.f60]
theorem Compare (x y : Int) : TV.pu 35 [cI .i64 x, cI .i64 y] = some (cI .i64 (cmpI x y)) := by
  refine run35 (by simp) ?_
  by_cases h1 : x < y
  · simp -implicitDefEqProofs [Tryd.f35, isNaN, cmpI, h1]
  · by_cases h2 : y < x <;> simp -implicitDefEqProofs [Tryd.f35, isNaN, cmpI, h1, h2]
theorem Or (x y : Int) : TV.pu 34 [.one (.arr [[.v (.int .i64 x)], [.v (.int .i64 y)]])] = some (cI .i64 (if x ≠ 0 then x else y)) := by
  refine run34 (by simp) ?_
  have w1 : IntKind.i64.wrap 1 = 1 := by decide
  have w2 : IntKind.i64.wrap 2 = 2 := by decide
  simp -implicitDefEqProofs [Tryd.f34]
  refine wpL_step ?_
  by_cases h1 : x = 0
  · simp -implicitDefEqProofs [h1, w1]
    refine wpL_step ?_
    by_cases h2 : y = 0
    · simp -implicitDefEqProofs [h2, w2]
      refine wpL_step ?_
      simp -implicitDefEqProofs
    · simp -implicitDefEqProofs [h2]
  · simp -implicitDefEqProofs [h1]
theorem cmpPu (x y : ByteArray) : TV.pu 36 [.one (.v (.string x)), .one (.v (.string y))] = some (cI .i64 (cmpB x y)) := TT_base rfl
theorem order (a b : Itm) : TV.pu 33 [.agg (cItm a), .agg (cItm b)] = some (cI .i64 (ordI a b)) := by
  refine run33 (by simp) ?_
  simp -implicitDefEqProofs [Tryd.f33, Compare, Or, cItm, ordI, cmpPu, vbuildSlice_eq es109 el3, cellsOf?, fzParts, setAll, rchParts, rch]
end Go.Proofs.YtonkhpeahbjmmaaDoorP
namespace Go.Proofs.YtonkhpeahbjmmaaDoorF
open Go Go.Proofs.Vm

theorem isNaN (x : Int) : TV.pu 60 [cI .i64 x] = some (cB false) := by
  refine run60 (by simp) ?_
  simp -implicitDefEqProofs [Tryd.f60]
theorem Compare (x y : Int) : TV.pu 35 [cI .i64 x, cI .i64 y] = some (cI .i64 (cmpI x y)) := by
  refine run35 (by simp) ?_
  by_cases h1 : x < y
  · simp -implicitDefEqProofs [Tryd.f35, isNaN, cmpI, h1]
  · by_cases h2 : y < x <;> simp -implicitDefEqProofs [Tryd.f35, isNaN, cmpI, h1, h2]
theorem Or (x y : Int) : TV.pu 34 [.one (.arr [[.v (.int .i64 x)], [.v (.int .i64 y)]])] = some (cI .i64 (if x ≠ 0 then x else y)) := by
  refine run34 (by simp) ?_
  have w1 : IntKind.i64.wrap 1 = 1 := by decide
  have w2 : IntKind.i64.wrap 2 = 2 := by decide
  simp -implicitDefEqProofs [Tryd.f34]
  refine wpL_step ?_
  by_cases h1 : x = 0
  · simp -implicitDefEqProofs [h1, w1]
    refine wpL_step ?_
    by_cases h2 : y = 0
    · simp -implicitDefEqProofs [h2, w2]
      refine wpL_step ?_
      simp -implicitDefEqProofs
    · simp -implicitDefEqProofs [h2]
  · simp -implicitDefEqProofs [h1]
theorem cmpPu (x y : ByteArray) : TV.pu 36 [.one (.v (.string x)), .one (.v (.string y))] = some (cI .i64 (cmpB x y)) := TT_base rfl
theorem order (a b : Itm) : TV.pu 33 [.agg (cItm a), .agg (cItm b)] = some (cI .i64 (ordI a b)) := by
  refine run33 (by simp) ?_
  simp -implicitDefEqProofs [Tryd.f33, Compare, Or, cItm, ordI, cmpPu, vbuildSlice_eq es109 el3, cellsOf?, fzParts, setAll, rchParts, rch]
end Go.Proofs.YtonkhpeahbjmmaaDoorF
end

section
/-
  DERIVED: THE SHELF's CONTRACTS AT THIS DUMP, IN PLAIN WORDS (tools/lay-plain.mjs out of 'YtonkhpeahbjmmaaDoorShelfSrc.lean', which tools/lay-shelf.mjs wrote): THE SAME DECLARATIONS UNDER THE SAME NAMES: 'import', 'namespace', 'open', 'def', 'theorem' AND NOTHING ELSE: no command of the shelf's: FOR A HAND-IN. Each laying: the table of numbers ('.._ren') and one theorem, a field a fact of the dump's own or the kernel's comparison; each contract: ONE APPLICATION.
-/
namespace Go.Proofs
open Go.Shelf
def Tryd.lays213_ren : Go.Shelf.Ren := ⟨fun | 213 => 61 | 265 => 87 | n => n, fun | 9 => 9 | 3 => 3 | n => n, fun | n => n⟩
theorem Tryd.lays213 : Go.Proofs.Lays.n213 Tryd.prog Tryd.lays213_ren := {
  mixed := by kernel_rfl
  f213 := Tryd.func61.trans (congrArg some (by kernel_rfl))
  f265 := Tryd.func87.trans (congrArg some (by kernel_rfl))
  t3 := Tryd.underlying3
  a3 := Tryd.isAgg3
  z3 := Tryd.sizeOf3
  v3 := Tryd.zeroValue3
  t9 := Tryd.underlying9
  a9 := Tryd.isAgg9
  z9 := Tryd.sizeOf9
  v9 := Tryd.zeroValue9 }
open Go.RowKit in
/-- internal/bytealg.CompareString (what strings.Compare calls): IT RETURNS 'Lib.compareBytes a b'; the world is as it was. (LAID: no walk: one application.) -/
theorem Tryd.bytealg_CompareString (a b : ByteArray) (w : World) :
    Calls Tryd.prog 61 #[.string a, .string b] w fun e w' => e = .returned (.int .i64 (Lib.compareBytes a.data.toList b.data.toList)) ∧ w' = w := Any.bytealg_CompareString Tryd.lays213 a b w
def Tryd.lays106_ren : Go.Shelf.Ren := ⟨fun | 106 => 36 | 213 => 61 | 265 => 87 | n => n, fun | 9 => 9 | 3 => 3 | n => n, fun | n => n⟩
theorem Tryd.lays106 : Go.Proofs.Lays.n106 Tryd.prog Tryd.lays106_ren := {
  mixed := by kernel_rfl
  f106 := Tryd.func36.trans (congrArg some (by kernel_rfl))
  f213 := Tryd.func61.trans (congrArg some (by kernel_rfl))
  f265 := Tryd.func87.trans (congrArg some (by kernel_rfl))
  t3 := Tryd.underlying3
  a3 := Tryd.isAgg3
  z3 := Tryd.sizeOf3
  v3 := Tryd.zeroValue3
  t9 := Tryd.underlying9
  a9 := Tryd.isAgg9
  z9 := Tryd.sizeOf9
  v9 := Tryd.zeroValue9 }
open Go.RowKit in
/-- strings.Compare: "Compare returns an integer comparing two strings lexicographically. The result will be 0 if a == b, -1 if a < b, and +1 if a > b.": IT RETURNS 'Lib.compareBytes a b'; the world is as it was. (LAID: no walk: one application.) -/
theorem Tryd.strings_Compare (a b : ByteArray) (w : World) :
    Calls Tryd.prog 36 #[.string a, .string b] w fun e w' => e = .returned (.int .i64 (Lib.compareBytes a.data.toList b.data.toList)) ∧ w' = w := Any.strings_Compare Tryd.lays106 a b w
def Tryd.laysTz_ren : Go.Shelf.Ren := ⟨fun | 29 => 51 | n => n, fun | 22 => 22 | 3 => 3 | 4 => 4 | 25 => 108 | 54 => 118 | 0 => 0 | 5 => 5 | n => n, fun | 1 => 0 | n => n⟩
theorem Tryd.laysTz : Go.Proofs.Lays7.n29 Tryd.prog Tryd.laysTz_ren := {
  mixed := by kernel_rfl
  f29 := Tryd.func51.trans (congrArg some (by kernel_rfl))
  t0 := Tryd.underlying0
  a0 := Tryd.isAgg0
  z0 := Tryd.sizeOf0
  v0 := Tryd.zeroValue0
  i0 := by kernel_rfl
  t3 := Tryd.underlying3
  a3 := Tryd.isAgg3
  z3 := Tryd.sizeOf3
  v3 := Tryd.zeroValue3
  i3 := by kernel_rfl
  t4 := Tryd.underlying4
  a4 := Tryd.isAgg4
  z4 := Tryd.sizeOf4
  v4 := Tryd.zeroValue4
  i4 := by kernel_rfl
  t5 := Tryd.underlying5
  a5 := Tryd.isAgg5
  z5 := Tryd.sizeOf5
  v5 := Tryd.zeroValue5
  i5 := by kernel_rfl
  t22 := Tryd.underlying22
  a22 := Tryd.isAgg22
  z22 := Tryd.sizeOf22
  v22 := Tryd.zeroValue22
  i22 := by kernel_rfl
  t25 := Tryd.underlying108
  a25 := Tryd.isAgg108
  z25 := Tryd.sizeOf108
  v25 := Tryd.zeroValue108
  i25 := by kernel_rfl
  t54 := Tryd.underlying118
  a54 := Tryd.isAgg118
  z54 := Tryd.sizeOf118
  g1 := by kernel_rfl }
def Tryd.laysSortItem_ren : Go.Shelf.Ren := ⟨fun | 6 => 32 | 15 => 59 | 14 => 58 | 28 => 85 | 29 => 86 | 20 => 77 | 21 => 78 | 22 => 79 | 23 => 80 | 24 => 81 | 25 => 82 | 26 => 83 | 27 => 84 | 46 => 93 | 47 => 94 | 48 => 95 | 49 => 96 | 50 => 97 | 57 => 98 | n => n, fun | 22 => 34 | 24 => 61 | 25 => 85 | 3 => 3 | 39 => 108 | 0 => 0 | 53 => 130 | 55 => 22 | 4 => 4 | 46 => 124 | 45 => 123 | 50 => 92 | 5 => 5 | 9 => 9 | 66 => 137 | 70 => 141 | 76 => 144 | 77 => 102 | n => n, fun | n => n⟩
theorem Tryd.laysSortItem : Go.Proofs.SlLaysF0.n6 Tryd.prog Tryd.laysSortItem_ren := {
  mixed := by kernel_rfl
  f6 := ⟨Tryd.f32.name, by decide, Tryd.func32.trans (congrArg some (by kernel_rfl))⟩
  f14 := ⟨Tryd.f58.name, by decide, Tryd.func58.trans (congrArg some (by kernel_rfl))⟩
  f15 := Tryd.func59.trans (congrArg some (by kernel_rfl))
  f20 := ⟨Tryd.f77.name, by decide, Tryd.func77.trans (congrArg some (by kernel_rfl))⟩
  f21 := ⟨Tryd.f78.name, by decide, Tryd.func78.trans (congrArg some (by kernel_rfl))⟩
  f22 := ⟨Tryd.f79.name, by decide, Tryd.func79.trans (congrArg some (by kernel_rfl))⟩
  f23 := ⟨Tryd.f80.name, by decide, Tryd.func80.trans (congrArg some (by kernel_rfl))⟩
  f24 := ⟨Tryd.f81.name, by decide, Tryd.func81.trans (congrArg some (by kernel_rfl))⟩
  f25 := ⟨Tryd.f82.name, by decide, Tryd.func82.trans (congrArg some (by kernel_rfl))⟩
  f26 := ⟨Tryd.f83.name, by decide, Tryd.func83.trans (congrArg some (by kernel_rfl))⟩
  f27 := ⟨Tryd.f84.name, by decide, Tryd.func84.trans (congrArg some (by kernel_rfl))⟩
  f28 := Tryd.func85.trans (congrArg some (by kernel_rfl))
  f29 := Tryd.func86.trans (congrArg some (by kernel_rfl))
  f46 := ⟨Tryd.f93.name, by decide, Tryd.func93.trans (congrArg some (by kernel_rfl))⟩
  f47 := Tryd.func94.trans (congrArg some (by kernel_rfl))
  f48 := Tryd.func95.trans (congrArg some (by kernel_rfl))
  f49 := ⟨Tryd.f96.name, by decide, Tryd.func96.trans (congrArg some (by kernel_rfl))⟩
  f50 := ⟨Tryd.f97.name, by decide, Tryd.func97.trans (congrArg some (by kernel_rfl))⟩
  f57 := ⟨Tryd.f98.name, by decide, Tryd.func98.trans (congrArg some (by kernel_rfl))⟩
  t0 := Tryd.underlying0
  a0 := Tryd.isAgg0
  z0 := Tryd.sizeOf0
  v0 := Tryd.zeroValue0
  t3 := Tryd.underlying3
  a3 := Tryd.isAgg3
  z3 := Tryd.sizeOf3
  v3 := Tryd.zeroValue3
  t4 := Tryd.underlying4
  a4 := Tryd.isAgg4
  z4 := Tryd.sizeOf4
  v4 := Tryd.zeroValue4
  t5 := Tryd.underlying5
  a5 := Tryd.isAgg5
  z5 := Tryd.sizeOf5
  v5 := Tryd.zeroValue5
  t9 := Tryd.underlying9
  a9 := Tryd.isAgg9
  z9 := Tryd.sizeOf9
  v9 := Tryd.zeroValue9
  t22 := Tryd.underlying34
  a22 := Tryd.isAgg34
  z22 := Tryd.sizeOf34
  v22 := Tryd.zeroValue34
  t25 := Tryd.underlying85
  a25 := Tryd.isAgg85
  z25 := Tryd.sizeOf85
  v25 := Tryd.zeroValue85
  t39 := Tryd.underlying108
  a39 := Tryd.isAgg108
  z39 := Tryd.sizeOf108
  v39 := Tryd.zeroValue108
  t45 := Tryd.underlying123
  a45 := Tryd.isAgg123
  z45 := Tryd.sizeOf123
  v45 := Tryd.zeroValue123
  t46 := Tryd.underlying124
  a46 := Tryd.isAgg124
  z46 := Tryd.sizeOf124
  v46 := Tryd.zeroValue124
  t50 := Tryd.underlying92
  a50 := Tryd.isAgg92
  z50 := Tryd.sizeOf92
  v50 := Tryd.zeroValue92
  t53 := Tryd.underlying130
  a53 := Tryd.isAgg130
  z53 := Tryd.sizeOf130
  v53 := Tryd.zeroValue130
  t55 := Tryd.underlying22
  a55 := Tryd.isAgg22
  z55 := Tryd.sizeOf22
  v55 := Tryd.zeroValue22
  t66 := Tryd.underlying137
  a66 := Tryd.isAgg137
  z66 := Tryd.sizeOf137
  v66 := Tryd.zeroValue137
  t70 := Tryd.underlying141
  a70 := Tryd.isAgg141
  z70 := Tryd.sizeOf141
  v70 := Tryd.zeroValue141
  t76 := Tryd.underlying144
  a76 := Tryd.isAgg144
  z76 := Tryd.sizeOf144
  v76 := Tryd.zeroValue144
  t77 := Tryd.underlying102
  a77 := Tryd.isAgg102
  z77 := Tryd.sizeOf102
  v77 := Tryd.zeroValue102 }
end Go.Proofs
end

section
/- Items sorted by their order: out of the shelf's contract. -/
namespace Go.Proofs.Vm
open Go Go.Shelf

variable {P : Program} {ρ : Ren}

theorem ltO (x y : Itm) : (ltOf ordI x y = true) ↔ ordI x y < 0 := by simp [ltOf]
theorem swo_ord : Go.Sort.SWO (ltOf ordI) := by
  refine ⟨fun x => ?_, fun x y z h1 h2 => ?_, fun x y z h1 h2 => ?_⟩
  · simp [ltOf, ordI_eq.2 rfl]
  · rw [ltO] at *; exact ordI_trans h1 h2
  · simp only [ltOf, decide_eq_false_iff_not] at *
    have a := ordI_neg x y
    have b := ordI_neg y z
    have c := ordI_neg x z
    have := ordI_le_trans z y x (by omega) (by omega)
    omega

theorem cmp_of {go : FuncId} (hc : ∀ a b : Itm, Ctr P go [.agg (cItm a), .agg (cItm b)] (cI .i64 (ordI a b))) (blk off size : Nat) (w : World) (hw : ∃ n, n ≤ blk ∧ n ≤ w.heap.size ∧ Tabs n w) : CmpLays P go #[] encI 2 ordI blk off size w := by
  intro m os dk _ x y
  have hTb : Tabs (sortWorldK encI 2 w blk off m dk os).heap.size (sortWorldK encI 2 w blk off m dk os) := by
    obtain ⟨n, n1, n2, n3⟩ := hw
    refine n3.mono (fun b hb => ?_) ?_
    · show ((w.heap.modify blk _) ++ os)[b]? = w.heap[b]?
      rw [Array.getElem?_append_left (by rw [Array.size_modify]; omega), Array.getElem?_modify, if_neg (by omega)]
    · show n ≤ ((w.heap.modify blk _) ++ os).size
      rw [Array.size_append, Array.size_modify]
      omega
  generalize sortWorldK encI 2 w blk off m dk os = W at hTb ⊢
  have hv : RKL (fun _ => False) W [.agg (cItm x), .agg (cItm y)] [.agg (encI x).toArray, .agg (encI y).toArray] := by
    have one : ∀ x : Itm, RKs (fun _ => False) W (cItm x) (encI x) := fun x => ⟨rfl, fun j a b ha hb => by
      match j with
      | 0 => cases ha; cases hb; exact .v _ rfl
      | 1 => cases ha; cases hb; exact .v _ rfl
      | j + 2 => simp [cItm] at ha⟩
    refine ⟨rfl, fun j a b ha hb => ?_⟩
    match j with
    | 0 => cases ha; cases hb; exact ⟨_, rfl, one x⟩
    | 1 => cases ha; cases hb; exact ⟨_, rfl, one y⟩
    | j + 2 => simp at ha
  refine (hc x y (fun _ => False) W _ (fun b h => h.elim) hTb hv).mono fun e w' hh => ?_
  obtain ⟨v, I', rfl, h1, h2, h3, h4, h5, h6, h7⟩ := hh
  have ev : v = .int .i64 (ordI x y) := by cases h7; rfl
  subst ev
  refine ⟨rfl, w'.drawn - W.drawn, w'.heap.extract W.heap.size w'.heap.size, ?_⟩
  obtain ⟨⟨a1, a2⟩, a3, a4⟩ := h6
  have hh : w'.heap = W.heap ++ w'.heap.extract W.heap.size w'.heap.size := by
    apply Array.ext_getElem?
    intro i
    by_cases hi : i < W.heap.size
    · rw [Array.getElem?_append_left hi, h5 i hi]
    · rw [Array.getElem?_append_right (by omega), Array.getElem?_extract]
      by_cases hi2 : i < w'.heap.size
      · rw [if_pos (by omega)]
        congr 1; omega
      · rw [if_neg (by omega), Array.getElem?_eq_none (by omega)]
  have hd : w'.drawn = W.drawn + (w'.drawn - W.drawn) := by omega
  obtain ⟨hp, tp, dr, os', ou⟩ := w'
  simp only [Go.Sort.grow, World.drewN] at *
  subst a1; subst a2; subst a3
  rw [← hd, ← hh]

theorem sortsF_of (L : SlLaysF0.n6 P ρ) (aE : ∀ w, (isAgg (ρ.t 24)).run P w = .ok true w) (zE : ∀ w, (Go.sizeOf (ρ.t 24)).run P w = .ok 2 w) {go : FuncId} (eg : ∀ args w, (callFunc go args).run P w = .ok (.enter go args) w)
    (hc : ∀ a b : Itm, Ctr P go [.agg (cItm a), .agg (cItm b)] (cI .i64 (ordI a b))) : SortsF P (ρ.f 6) go ordI := by
  intro blk off cap d w hw h1 h2 h3
  have h := AnyQ.slices_SortFunc_total L 2 aE zE encI (fun _ => rfl) (fun x v hv => by
    simp only [encI, List.mem_cons, List.not_mem_nil, or_false] at hv
    rcases hv with rfl | rfl <;> rfl) ordI swo_ord go #[] blk off cap d.toArray w eg (cmp_of hc _ _ _ _ hw) h1 h2 (by simpa using h3) (fun x y a b => by
      simp only [ltOf, decide_eq_false_iff_not] at a b
      have := ordI_neg x y
      exact ordI_eq.1 (by omega))
  have e : (fun x y : Itm => !(ltOf ordI) y x) = fun x y => decide (ordI x y ≤ 0) := by
    funext x y
    have := ordI_neg x y
    simp only [ltOf]
    by_cases g : ordI y x < 0
    · simp [g]; omega
    · simp [g]; omega
  simp only [e] at h
  refine Calls.mono ?_ (fun _ _ h => h)
  simpa [isort] using h
theorem sortsF0_of (L : SlLaysF0.n6 P ρ) {go : FuncId} : SortsF0 P (ρ.f 6) go := fun p cap w => AnyF.slices_SortFunc_none L p cap _ w
end Go.Proofs.Vm
end

section
/- The whole table tells the truth of the program (seats with sorted items and a table of trailing noughts). -/
namespace Go.Proofs.YtonkhpeahbjmmaaDoorP
open Go Go.Proofs.Vm Go.Proofs.YtonkhpeahbjmmaaDoorF
theorem cmpS : CmpS Tryd.prog 36 := fun a b w => Tryd.strings_Compare a b w
theorem fnOkC : FnOk Tryd.prog 36 := ⟨Tryd.f36, Tryd.func36, by kernel_rfl, by kernel_rfl⟩
theorem fnOkS : FnOk Tryd.prog 32 := ⟨Tryd.f32, Tryd.func32, by kernel_rfl, by kernel_rfl⟩
theorem fnOkT : FnOk Tryd.prog 51 := ⟨Tryd.f51, Tryd.func51, by kernel_rfl, by kernel_rfl⟩
theorem tvOk : TOk Tryd.prog TV := TT_ok mixed (cmpTab_ok fnOkC cmpS)
theorem orderC (a b : Itm) : Ctr Tryd.prog 33 [.agg (cItm a), .agg (cItm b)] (cI .i64 (ordI a b)) := (tvOk.1 _ _ _ (order a b)).2
theorem entersO : Enters Tryd.prog 33 := enters_of Tryd.func33 (by kernel_rfl) rfl
theorem sorts : SortsF Tryd.prog 32 33 ordI := sortsF_of Tryd.laysSortItem (fun w => Tryd.isAgg61 w) (fun w => Tryd.sizeOf61 w) entersO orderC
theorem sorts0 : SortsF0 Tryd.prog 32 33 := sortsF0_of Tryd.laysSortItem
end Go.Proofs.YtonkhpeahbjmmaaDoorP
namespace Go.Proofs.YtonkhpeahbjmmaaDoorF
open Go Go.Proofs.Vm Go.Proofs.YtonkhpeahbjmmaaDoorP
theorem tzS : TzS Tryd.prog 51 := fun x w hx hT => Any7.bits_TrailingZeros64 Tryd.laysTz x hx w fun _ => (hT (0, Lib.deBruijn64tab) List.mem_cons_self).2
theorem tvOk : TOk Tryd.prog TV := TT_ok mixed (orTab_ok (tzTab_ok fnOkT tzS) (srtTab_ok (by kernel_rfl) fnOkC cmpS fnOkS sorts sorts0))

/- The table, as the world lays it. -/
def laidL : List (String × DataW Unit) := [("math/bits.deBruijn64tab", YtonkhpeahbjmmaaDoor.Rows.laid_math_bits_deBruijn64tab)]
theorem gTab : Tryd.prog.globalNamed "math/bits.deBruijn64tab" = some 0 := by kernel_rfl
theorem tTab : (Tryd.prog.globals[0]?).map (·.type) = some 118 := by kernel_rfl
def doorSteps : Nat := 2000
theorem door_met (os : Os) (args : Array Value) : laidMetH Tryd.prog laidL ((World.doorLaid Tryd.prog doorSteps os).forCall (fun _ _ => 0) ⟨#[], args, []⟩).memory :=
  laidMetH_of_parts3 (fuel := 8) (laidMet_of_run' 8 (by kernel_rfl) (by kernel_rfl)) (by kernel_rfl) (by kernel_rfl)
theorem laid_eq : YtonkhpeahbjmmaaDoor.Rows.laid_math_bits_deBruijn64tab (H := Unit) = .agg (Lib.deBruijn64tab.map fun (n : Nat) => .lit (.int .u8 (n : Int))) := rfl
theorem tabs_of_laid {W : World} (h : laidMetH Tryd.prog laidL W) : Tabs W.heap.size W := by
  rw [MakeChecks.laidMetH_plain _ _ _ (by kernel_rfl)] at h
  obtain ⟨ps, ⟨g0, t0, cs0, f0, p0, q0, hg0, ht0, hv0, hd0, _, _⟩, _⟩ := h
  obtain rfl := Option.some.inj (gTab.symm.trans hg0)
  obtain rfl := Option.some.inj (tTab.symm.trans ht0)
  rw [laid_eq] at hd0
  obtain ⟨xs, m1, rfl, hx1, hlen, hn, hel⟩ := DataW.trod_array Tryd.underlying118 hd0
  have c1 : Tryd.prog.cellsOf 5 = 1 := by kernel_rfl
  have hx2 : Lib.deBruijn64tab.map (fun (n : Nat) => (DataW.lit (.int .u8 (n : Int)) : DataW Unit)) = xs.map (·.1) := by
    have := (Prod.mk.inj hx1).1
    exact DataW.agg.inj this
  have hcell : ∀ j, j < 64 → W.cell? ⟨0, j, none⟩ = some (.int .u8 (Lib.deBruijn64tab.getD j 0)) := fun j hj => by
    have hj2 : j < xs.length := by omega
    have h1 := hel j hj
    rw [c1, List.getElem?_eq_getElem hj2] at h1
    obtain ⟨k, e1, e2, _⟩ := DataW.trod_int Tryd.underlying5 h1
    have h2 := congrArg (fun l => l[j]?) hx2
    simp only [List.getElem?_map, List.getElem?_eq_getElem hj2, Option.map_some, e2] at h2
    have hjl : j < Lib.deBruijn64tab.length := hj
    rw [List.getElem?_eq_getElem hjl] at h2
    simp only [Option.map_some, Option.some.injEq, DataW.lit.injEq, Lit.int.injEq, true_and] at h2
    have hc := World.var?_cell hg0 hv0 j
    rw [hc]
    have h3 : cs0.toList[j]? = some (.int .u8 k) := by
      have := congrArg (fun l => l[0]?) e1
      simpa using this
    rw [← Array.getElem?_toList, h3, ← h2, List.getD_eq_getElem?_getD, List.getElem?_eq_getElem hjl]
    rfl
  intro p hp
  obtain rfl : p = (0, Lib.deBruijn64tab) := by simpa [tbs] using hp
  refine ⟨?_, fun j hj => hcell j hj⟩
  have h0 := hcell 0 (by decide)
  rcases Nat.eq_zero_or_pos W.heap.size with e | e
  · exfalso
    unfold World.cell? at h0
    have : W.heap[0]? = none := Array.getElem?_eq_none (by omega)
    simp [this] at h0
  · exact e
end Go.Proofs.YtonkhpeahbjmmaaDoorF
end

section
/- Structs of strings and numbers, compared. -/
namespace Go.Proofs.Vm
open Go

variable {P : Program} {H : Hp}

theorem eq_strD {t : TypeId} (hu : pv P (underlying t) = some .string) (a b : ByteArray) (d : Nat) : pv P (Op.equalIn (d + 1) t (.string a) (.string b)) = some (a == b) := by
  unfold Op.equalIn
  simp [hu]
theorem eq_intD {t : TypeId} {k : IntKind} (hu : pv P (underlying t) = some (.int k)) (a b : Int) (d : Nat) : pv P (Op.equalIn (d + 1) t (.int k a) (.int k b)) = some (a == b) := by
  unfold Op.equalIn
  simp [hu]

theorem pv_of {t : TypeId} {d : TypeDesc} (h : P.underlying t = some d) : pv P (underlying t) = some d := by
  unfold underlying
  simp [h]
/-- Of one string and one number. -/
theorem eq_st2 {t : TypeId} {f0 f1 : Field} {k : IntKind} (hu : pv P (underlying t) = some (.struct #[f0, f1])) (hs : P.stoodInHeld t = false) (n0 : (f0.name == "_") = false) (n1 : (f1.name == "_") = false) (o0 : f0.offset = 0) (o1 : f1.offset = 1)
    (a0 : pv P (isAgg f0.type) = some false) (a1 : pv P (isAgg f1.type) = some false) (u0 : pv P (underlying f0.type) = some .string) (u1 : pv P (underlying f1.type) = some (.int k)) (a b : ByteArray) (x y : Int) (d : Nat) :
    pv P (Op.equalIn (d + 2) t (.agg #[.string a, .int k x]) (.agg #[.string b, .int k y])) = some (a == b && x == y) := by
  have m0 : ¬ f0.name = "_" := fun h => by rw [h] at n0; simp at n0
  have m1 : ¬ f1.name = "_" := fun h => by rw [h] at n1; simp at n1
  unfold Op.equalIn
  cases h0 : a == b <;> cases h1 : x == y <;> simp [hu, hs, m0, m1, o0, o1, part, a0, a1, eq_strD u0, eq_intD u1, h0, h1]

theorem bin_st2 {t : TypeId} {f0 f1 : Field} {k : IntKind} (hu : pv P (underlying t) = some (.struct #[f0, f1])) (hs : P.stoodInHeld t = false) (hg : P.eqGuardType P.depth t = false) (n0 : (f0.name == "_") = false) (n1 : (f1.name == "_") = false) (o0 : f0.offset = 0) (o1 : f1.offset = 1)
    (a0 : pv P (isAgg f0.type) = some false) (a1 : pv P (isAgg f1.type) = some false) (u0 : pv P (underlying f0.type) = some .string) (u1 : pv P (underlying f1.type) = some (.int k)) {a b : ByteArray} {x y : Int} {p q : Operand} :
    vbin P H .eql t p q (.agg [.c (.v (.string a)), .c (.v (.int k x))]) (.agg [.c (.v (.string b)), .c (.v (.int k y))]) = qa (vB (a == b && x == y)) ∧
    vbin P H .neq t p q (.agg [.c (.v (.string a)), .c (.v (.int k x))]) (.agg [.c (.v (.string b)), .c (.v (.int k y))]) = qa (vB (!(a == b && x == y))) := by
  have h := eq_st2 hu hs n0 n1 o0 o1 a0 a1 u0 u1 a b x y 9998
  constructor <;> simp [vbin, vbin0, neSl, isNils, isPtr, isNilp, fresh, AV.sc, scs, Cell.sc, eqGuard, hg, binOp, ofPv, one?, Value.oneCell', Op.equal, Op.maxDepth, h]
/-- A pointer that is none, and one that is not. -/
theorem bin_pnn {t e : TypeId} (hu : pv P (underlying t) = some (.pointer e)) {x y : Operand} {p : Pt} (hl : lenIs H p.id p.tot = true) : vbin P H .neq t x y (.one (.ptr p)) (.one (.c (.v (.pointer none)))) = qa (vB true) := by
  simp [-lenIs, vbin, vbin0, neSl, isNils, isPtr, isNilp, fresh, hl, hu, one?, Value.oneCell']
theorem bin_pen {t e : TypeId} (hu : pv P (underlying t) = some (.pointer e)) {x y : Operand} : vbin P H .neq t x y (.one (.c (.v (.pointer none)))) (.one (.c (.v (.pointer none)))) = qa (vB false) := by
  simp [vbin, vbin0, neSl, isNils, isPtr, isNilp, fresh, AV.sc, Cell.sc, eqGuard, binOp, ofPv, one?, Value.oneCell', Op.equal, Op.maxDepth, eq_nil hu 9999]
end Go.Proofs.Vm
end

section
/- Numbers of the field, sums and cells of keys. -/
namespace Go.Proofs.YtonkhpeahbjmmaaDoorF
open Go Go.Proofs.Vm

theorem u64w (x : Int) : IntKind.u64.wrap x = x % 18446744073709551616 := by simp [IntKind.wrap, IntKind.bits, IntKind.signed]
theorem u64_id {x : Int} (h0 : 0 ≤ x) (h1 : x < 18446744073709551616) : IntKind.u64.wrap x = x := by rw [u64w]; omega
theorem and_low (x : Int) (n : Nat) (hn : n ≤ 63) (h0 : 0 ≤ x) (h1 : x < 18446744073709551616) : Go.bits .and .u64 x ((2 ^ n - 1 : Nat) : Int) = x % ((2 ^ n : Nat) : Int) := by
  have hp : 2 ^ n ≤ 2 ^ 63 := Nat.pow_le_pow_right (by omega) hn
  have hq : 2 ^ 63 = 9223372036854775808 := by decide
  rw [u64_and x _ h0 h1 (by omega) (by omega)]
  rw [show ((2 ^ n - 1 : Nat) : Int).toNat = 2 ^ n - 1 by omega, Nat.and_two_pow_sub_one_eq_mod]
  obtain ⟨m, rfl⟩ := Int.eq_ofNat_of_zero_le h0
  simp
theorem and_P (x : Int) (h0 : 0 ≤ x) (h1 : x < 18446744073709551616) : Go.bits .and .u64 x 2305843009213693951 = x % 2305843009213693952 := and_low x 61 (by omega) h0 h1
theorem and_32 (x : Int) (h0 : 0 ≤ x) (h1 : x < 18446744073709551616) : Go.bits .and .u64 x 4294967295 = x % 4294967296 := and_low x 32 (by omega) h0 h1
theorem and_1 (x : Int) (h0 : 0 ≤ x) (h1 : x < 18446744073709551616) : Go.bits .and .u64 x 1 = x % 2 := and_low x 1 (by omega) h0 h1

theorem or_join' (x y : Int) (n : Nat) (hx0 : 0 ≤ x) (hx1 : x < 18446744073709551616) (hx : x % ((2 ^ n : Nat) : Int) = 0) (hy0 : 0 ≤ y) (hy1 : y < ((2 ^ n : Nat) : Int)) (hy2 : y < 18446744073709551616) : Go.bits .or .u64 y x = y + x := by
  rw [u64_or y x hy0 hy2 hx0 hx1]
  obtain ⟨a, rfl⟩ := Int.eq_ofNat_of_zero_le hx0
  obtain ⟨b, rfl⟩ := Int.eq_ofNat_of_zero_le hy0
  have h := nat_join n a b (by omega) (by omega)
  simp only [Int.toNat_natCast]
  rw [Nat.or_comm, h]
  simp; omega
theorem mul_bound {x y : Int} (n : Int) (h0 : 0 ≤ x) (h1 : x ≤ n) (h2 : 0 ≤ y) (h3 : y ≤ n) : 0 ≤ x * y ∧ x * y ≤ n * n :=
  ⟨Int.mul_nonneg h0 h2, Int.mul_le_mul h1 h3 h2 (by omega)⟩

theorem field_Of {a : Int} (h0 : 0 ≤ a) (h1 : a < 18446744073709551616) : TV.pu 75 [cI .u64 a] = some (cI .u64 (a % 2305843009213693951)) := by
  refine run75 (by simp) ?_
  simp [Tryd.f75, bin_shr, and_P a h0 h1, IntKind.bits]
  rw [u64_id (x := a % 2305843009213693952 + a / 2305843009213693952) (by omega) (by omega)]
  split
  · rw [u64_id (by omega) (by omega)]; omega
  · omega

theorem field_Add {a b : Int} (h0 : 0 ≤ a) (h1 : a < 18446744073709551616) (h2 : 0 ≤ b) (h3 : b < 18446744073709551616) : TV.pu 52 [cI .u64 a, cI .u64 b] = some (cI .u64 ((a + b) % 2305843009213693951)) := by
  refine run52 (by simp) ?_
  have e : IntKind.u64.wrap (a % 2305843009213693951 + b % 2305843009213693951) = a % 2305843009213693951 + b % 2305843009213693951 := u64_id (by omega) (by omega)
  simp [Tryd.f52, field_Of h0 h1, field_Of h2 h3, e, field_Of (a := a % 2305843009213693951 + b % 2305843009213693951) (by omega) (by omega)]

theorem Mul64 {x y : Int} (h0 : 0 ≤ x) (h1 : x < 18446744073709551616) (h2 : 0 ≤ y) (h3 : y < 18446744073709551616) : TV.pu 76 [cI .u64 x, cI .u64 y] = some (.tup [(false, [.v (.int .u64 (x * y / 18446744073709551616))]), (false, [.v (.int .u64 (x * y % 18446744073709551616))])]) := by
  refine run76 (by simp) ?_
  simp [Tryd.f76, bin_shr, IntKind.bits, and_32 x h0 h1, and_32 y h2 h3]
  obtain ⟨x1, hx1⟩ : ∃ z, z = x / 4294967296 := ⟨_, rfl⟩
  obtain ⟨x0, hx0⟩ : ∃ z, z = x % 4294967296 := ⟨_, rfl⟩
  obtain ⟨y1, hy1⟩ : ∃ z, z = y / 4294967296 := ⟨_, rfl⟩
  obtain ⟨y0, hy0⟩ : ∃ z, z = y % 4294967296 := ⟨_, rfl⟩
  rw [← hx1, ← hx0, ← hy1, ← hy0]
  have ex : x = x1 * 4294967296 + x0 := by omega
  have ey : y = y1 * 4294967296 + y0 := by omega
  have b11 := mul_bound (x := x1) (y := y1) 4294967295 (by omega) (by omega) (by omega) (by omega)
  have b10 := mul_bound (x := x1) (y := y0) 4294967295 (by omega) (by omega) (by omega) (by omega)
  have b01 := mul_bound (x := x0) (y := y1) 4294967295 (by omega) (by omega) (by omega) (by omega)
  have b00 := mul_bound (x := x0) (y := y0) 4294967295 (by omega) (by omega) (by omega) (by omega)
  have exy : x * y = x1 * y1 * 18446744073709551616 + (x1 * y0 + x0 * y1) * 4294967296 + x0 * y0 := by rw [ex, ey]; grind
  rw [exy]
  generalize x1 * y1 = p11 at *
  generalize x1 * y0 = p10 at *
  generalize x0 * y1 = p01 at *
  generalize x0 * y0 = p00 at *
  clear hx1 hx0 hy1 hy0 ex ey exy h0 h1 h2 h3
  rw [u64_id (x := p11) (by omega) (by omega), u64_id (x := p10) (by omega) (by omega), u64_id (x := p01) (by omega) (by omega), u64_id (x := p00) (by omega) (by omega)]
  rw [u64_id (x := p10 + p00 / 4294967296) (by omega) (by omega)]
  rw [and_32 _ (by omega) (by omega)]
  rw [u64_id (x := (p10 + p00 / 4294967296) % 4294967296 + p01) (by omega) (by omega)]
  rw [u64_id (x := p11 + (p10 + p00 / 4294967296) / 4294967296) (by omega) (by omega)]
  rw [u64_id (x := p11 + (p10 + p00 / 4294967296) / 4294967296 + ((p10 + p00 / 4294967296) % 4294967296 + p01) / 4294967296) (by omega) (by omega)]
  rw [u64w]
  omega

theorem field_Mul {a b : Int} (h0 : 0 ≤ a) (h1 : a < 18446744073709551616) (h2 : 0 ≤ b) (h3 : b < 18446744073709551616) : TV.pu 53 [cI .u64 a, cI .u64 b] = some (cI .u64 (a * b % 2305843009213693951)) := by
  refine run53 (by simp) ?_
  have hb := mul_bound (x := a % 2305843009213693951) (y := b % 2305843009213693951) 2305843009213693950 (by omega) (by omega) (by omega) (by omega)
  have hm := Mul64 (x := a % 2305843009213693951) (y := b % 2305843009213693951) (by omega) (by omega) (by omega) (by omega)
  rw [Int.mul_emod a b]
  generalize a % 2305843009213693951 * (b % 2305843009213693951) = N at hb hm ⊢
  simp [Tryd.f53, field_Of h0 h1, field_Of h2 h3, hm, bin_shr, bin_shl, IntKind.bits]
  rw [and_P _ (by omega) (by omega)]
  rw [u64_id (x := N / 18446744073709551616 * 8) (by omega) (by omega)]
  rw [or_join' (N / 18446744073709551616 * 8) (N % 18446744073709551616 / 2305843009213693952) 3 (by omega) (by omega) (by omega) (by omega) (by omega) (by omega)]
  rw [u64_id (by omega) (by omega), field_Of (by omega) (by omega)]
  simp
  omega
theorem int_sq (x : Int) : x ^ 2 = x * x := by rw [Int.pow_succ, Int.pow_succ, Int.pow_zero, Int.one_mul]
theorem emod_pow (a n : Int) (k : Nat) : (a % n) ^ k % n = a ^ k % n := by
  induction k with
  | zero => simp
  | succ k ih => rw [Int.pow_succ, Int.pow_succ, Int.mul_emod, ih, Int.emod_emod_of_dvd _ (Int.dvd_refl n), ← Int.mul_emod]

theorem field_Pow {x : Int} {n : Nat} (h0 : 0 ≤ x) (h1 : x < 18446744073709551616) (hn : (n : Int) < 18446744073709551616) : TV.pu 74 [cI .u64 x, cI .u64 n] = some (cI .u64 (x ^ n % 2305843009213693951)) := by
  refine run74 (by simp) ?_
  simp [Tryd.f74, field_Of h0 h1]
  obtain ⟨I, hI⟩ : ∃ I : Nat → St → Prop, ∀ k s, I k s ↔ (∃ e y o, s = ⟨e, []⟩ ∧ e 0 = vI .u64 y ∧ e 1 = vI .u64 (k : Nat) ∧ e 5 = vI .u64 o ∧ 0 ≤ y ∧ y < 2305843009213693951 ∧ 0 ≤ o ∧ o < 2305843009213693951 ∧ (k : Int) < 18446744073709551616 ∧ o * y ^ k % 2305843009213693951 = x ^ n % 2305843009213693951) := ⟨_, fun _ _ => Iff.rfl⟩
  refine wpL_ind I ?_ n _ ((hI _ _).2 ⟨_, x % 2305843009213693951, 1, rfl, by simp, by simp, by simp, by omega, by omega, by omega, by omega, hn, by rw [Int.one_mul, emod_pow]⟩)
  intro k s hs
  obtain ⟨e, y, o, rfl, e0, e1, e5, y0, y1, o0, o1, k1, hk⟩ := (hI _ _).1 hs
  have hm := field_Mul (a := y) (b := y) y0 (by omega) y0 (by omega)
  have ho := field_Mul (a := o) (b := y) o0 (by omega) y0 (by omega)
  have key : ∀ o : Int, (o * (y * y % 2305843009213693951) ^ (k / 2)) % 2305843009213693951 = (o * y ^ (2 * (k / 2))) % 2305843009213693951 := by
    intro o
    rw [Int.mul_emod, emod_pow, ← Int.mul_emod, ← int_sq, ← Int.pow_mul]
  simp [e0, e1, e5, hm, ho, bin_shr, IntKind.bits, and_1 (k : Int) (by omega) (by omega)]
  by_cases hz : k = 0
  · subst hz
    rw [if_neg (by omega)]
    simp at hk
    rw [← hk]
    omega
  · rw [if_pos (by omega)]
    split
    · refine ⟨k / 2, by omega, (hI _ _).2 ⟨_, y * y % 2305843009213693951, o * y % 2305843009213693951, rfl, by simp, by simp, by simp, by omega, by omega, by omega, by omega, by omega, ?_⟩⟩
      rw [key, ← hk]
      have e2 : y ^ k = y * y ^ (2 * (k / 2)) := by
        rw [Int.mul_comm, ← Int.pow_succ]; congr 1; omega
      rw [e2, ← Int.mul_assoc, Int.mul_emod, Int.emod_emod_of_dvd _ (Int.dvd_refl _), ← Int.mul_emod]
    · refine ⟨k / 2, by omega, (hI _ _).2 ⟨_, y * y % 2305843009213693951, o, rfl, by simp, by simp, by simp [e5], by omega, by omega, by omega, by omega, by omega, ?_⟩⟩
      rw [key, ← hk, show 2 * (k / 2) = k by omega]
theorem byt_range (s : ByteArray) (i : Int) : 0 ≤ byt s i ∧ byt s i < 256 := by
  unfold byt
  split
  · rename_i b _
    have := b.toNat_lt
    omega
  · omega
theorem byt_out (s : ByteArray) (i : Int) (h0 : 0 ≤ i) (h : (s.size : Int) ≤ i) : byt s i = 0 := by
  unfold byt
  have : s[i.toNat]? = none := by simp; omega
  rw [this]
def fP : Int := 2305843009213693951
/-- Four bytes as a number; noughts behind the end. -/
def hword (s : ByteArray) (i : Int) : Int := ((byt s i * 256 + byt s (i + 1)) * 256 + byt s (i + 2)) * 256 + byt s (i + 3)
/-- What is reckoned of the first n words. -/
def hpoly (a : Int) (s : ByteArray) : Nat → Int
  | 0 => (s.size : Int) % 2305843009213693951
  | n + 1 => (hpoly a s n * a + (hword s (4 * (n : Int)) + 1)) % 2305843009213693951
def nwords (s : ByteArray) : Nat := (s.size + 3) / 4
def hsum (seed : Int) (s : ByteArray) : Int := (hpoly ((seed + 2) % 2305843009213693951) s (nwords s) * ((seed + 2) % 2305843009213693951) % 2305843009213693951) ^ 17 % 2305843009213693951
def hrow (seed i : Int) : Int := (((seed + 3) * ((if i < 0 then 0 else i) + 2) + 5) % 2305843009213693951) ^ 2 % 2305843009213693951
def hcell (seed : Int) (s : ByteArray) (n : Int) : Int := if n < 1 then 0 else hsum seed s % n
def hsign (seed : Int) (s : ByteArray) : Int := hsum seed s % 2 * 2 - 1

theorem hsum_range (seed : Int) (s : ByteArray) : 0 ≤ hsum seed s ∧ hsum seed s < 2305843009213693951 := by
  unfold hsum; omega
theorem hrow_range (seed i : Int) : 0 ≤ hrow seed i ∧ hrow seed i < 2305843009213693951 := by
  unfold hrow; omega
theorem hcell_range (seed : Int) (s : ByteArray) (n : Int) (h : 1 ≤ n) : 0 ≤ hcell seed s n ∧ hcell seed s n < n := by
  unfold hcell
  rw [if_neg (by omega)]
  exact ⟨Int.emod_nonneg _ (by omega), Int.emod_lt_of_pos _ (by omega)⟩
theorem hsign_or (seed : Int) (s : ByteArray) : hsign seed s = 1 ∨ hsign seed s = -1 := by
  unfold hsign; omega
theorem hword_range (s : ByteArray) (i : Int) : 0 ≤ hword s i ∧ hword s i < 4294967296 := by
  have a := byt_range s i; have b := byt_range s (i + 1); have c := byt_range s (i + 2); have d := byt_range s (i + 3)
  unfold hword; omega
theorem hpoly_range (a : Int) (s : ByteArray) (n : Nat) : 0 ≤ hpoly a s n ∧ hpoly a s n < 2305843009213693951 := by
  cases n with
  | zero => unfold hpoly; omega
  | succ n => unfold hpoly; omega

theorem or_join (x y : Int) (n : Nat) (hx0 : 0 ≤ x) (hx1 : x < 18446744073709551616) (hx : x % ((2 ^ n : Nat) : Int) = 0) (hy0 : 0 ≤ y) (hy1 : y < ((2 ^ n : Nat) : Int)) (hy2 : y < 18446744073709551616) : Go.bits .or .u64 x y = x + y := by
  rw [u64_or x y hx0 hx1 hy0 hy2]
  obtain ⟨a, rfl⟩ := Int.eq_ofNat_of_zero_le hx0
  obtain ⟨b, rfl⟩ := Int.eq_ofNat_of_zero_le hy0
  have h := nat_join n a b (by omega) (by omega)
  simp only [Int.toNat_natCast]
  rw [h]
  simp

theorem hash_Row {s i : Int} (h0 : 0 ≤ s) (h1 : s < 18446744073709551616) (h2 : i < 9223372036854775808) (h3 : -9223372036854775808 ≤ i) : TV.pu 26 [cI .u64 s, cI .i64 i] = some (cI .u64 (hrow s i)) := by
  refine run26 (by simp) ?_
  obtain ⟨j, hj⟩ : ∃ j, j = if i < 0 then 0 else i := ⟨_, rfl⟩
  have hj0 : 0 ≤ j := by rw [hj]; split <;> omega
  have hj1 : j < 9223372036854775808 := by rw [hj]; split <;> omega
  obtain ⟨v1, h1'⟩ : ∃ v, v = (s + 3) % 2305843009213693951 := ⟨_, rfl⟩
  obtain ⟨v2, h2'⟩ : ∃ v, v = (j + 2) % 2305843009213693951 := ⟨_, rfl⟩
  obtain ⟨v3, h3'⟩ : ∃ v, v = v1 * v2 % 2305843009213693951 := ⟨_, rfl⟩
  obtain ⟨v4, h4'⟩ : ∃ v, v = (v3 + 5) % 2305843009213693951 := ⟨_, rfl⟩
  have e1 := field_Add (a := s) (b := 3) h0 h1 (by omega) (by omega)
  have e2 := field_Add (a := j) (b := 2) hj0 (by omega) (by omega) (by omega)
  have e3 := field_Mul (a := v1) (b := v2) (by omega) (by omega) (by omega) (by omega)
  have e4 := field_Add (a := v3) (b := 5) (by omega) (by omega) (by omega) (by omega)
  have e5 := field_Mul (a := v4) (b := v4) (by omega) (by omega) (by omega) (by omega)
  rw [← h1'] at e1
  rw [← h2'] at e2
  rw [← h3'] at e3
  rw [← h4'] at e4
  have ew : IntKind.u64.wrap j = j := u64_id hj0 (by omega)
  have em : (if i < 0 then 0 else i) = j := hj.symm
  simp [Tryd.f26, e1, em, ew, e2, e3, e4, e5]
  unfold hrow
  rw [em, int_sq]
  have hv : v4 = ((s + 3) * (j + 2) + 5) % 2305843009213693951 := by
    have : v3 = (s + 3) * (j + 2) % 2305843009213693951 := by rw [h3', h1', h2', ← Int.mul_emod]
    omega
  rw [hv]

/-- The first bytes of a word. -/
def hwp (s : ByteArray) (i : Int) : Nat → Int
  | 0 => 0
  | j + 1 => hwp s i j * 256 + byt s (i + j)
theorem hwp_range (s : ByteArray) (i : Int) : ∀ j : Nat, 0 ≤ hwp s i j ∧ hwp s i j < 256 ^ j
  | 0 => by simp [hwp]
  | j + 1 => by
    have := hwp_range s i j
    have := byt_range s (i + j)
    simp only [hwp]
    rw [Int.pow_succ]
    omega
theorem hwp_word (s : ByteArray) (i : Int) : hwp s i 4 = hword s i := by
  simp [hwp, hword]

theorem hash_Sum {seed : Int} {s : ByteArray} (h0 : 0 ≤ seed) (h1 : seed < 18446744073709551616) (hs : s.size ≤ 140737488351232) : TV.pu 50 [cI .u64 seed, cS s] = some (cI .u64 (hsum seed s)) := by
  refine run50 (by simp) ?_
  have ha := field_Add (a := seed) (b := 2) h0 h1 (by omega) (by omega)
  have ew : IntKind.u64.wrap (s.size : Int) = s.size := u64_id (by omega) (by omega)
  obtain ⟨a, hae⟩ : ∃ a, a = (seed + 2) % 2305843009213693951 := ⟨_, rfl⟩
  have ha0 : 0 ≤ a := by omega
  have ha1 : a < 2305843009213693951 := by omega
  rw [← hae] at ha
  simp [Tryd.f50, ha, ew]
  obtain ⟨I, hI⟩ : ∃ I : Nat → St → Prop, ∀ k s', I k s' ↔ (∃ e n, s' = ⟨e, []⟩ ∧ e 1 = vS s ∧ e 5 = vI .u64 a ∧ e 6 = vI .u64 (hpoly a s n) ∧ e 7 = vI .i64 (4 * (n : Nat) : Int) ∧ n + k = nwords s) := ⟨_, fun _ _ => Iff.rfl⟩
  have e0 : hpoly a s 0 = (s.size : Int) := by
    show (s.size : Int) % 2305843009213693951 = _
    omega
  refine wpL_ind I ?_ (nwords s) _ ((hI _ _).2 ⟨_, 0, rfl, by simp, by simp, by simp [e0], by simp, by omega⟩)
  intro k st hst
  obtain ⟨e, n, rfl, e1, e5, e6, e7, hk⟩ := (hI _ _).1 hst
  have hp := hpoly_range a s n
  simp [e1, e5, e6, e7]
  by_cases c : k = 0
  · have hsz : ¬ 4 * (n : Int) < (s.size : Int) := by unfold nwords at hk; omega
    have hn : n = nwords s := by omega
    rw [if_neg hsz]
    have hm := field_Mul (a := hpoly a s n) (b := a) hp.1 (by omega) ha0 (by omega)
    have hw := field_Pow (x := hpoly a s n * a % 2305843009213693951) (n := 17) (by omega) (by omega) (by omega)
    simp at hw
    simp [hm, hw]
    unfold hsum
    rw [← hae, ← hn]
  · have hsz : 4 * (n : Int) < (s.size : Int) := by unfold nwords at hk; omega
    rw [if_pos hsz]
    obtain ⟨J, hJ⟩ : ∃ J : Nat → St → Prop, ∀ k s', J k s' ↔ (∃ e j, s' = ⟨e, []⟩ ∧ e 1 = vS s ∧ e 5 = vI .u64 a ∧ e 6 = vI .u64 (hpoly a s n) ∧ e 7 = vI .i64 (4 * (n : Nat) : Int) ∧ e 8 = vI .u64 (hwp s (4 * (n : Nat) : Int) j) ∧ e 21 = vI .i64 (j : Nat) ∧ j + k = 4) := ⟨_, fun _ _ => Iff.rfl⟩
    refine wpL_ind J ?_ 4 _ ((hJ _ _).2 ⟨_, 0, rfl, by simp [e1], by simp [e5], by simp [e6], by simp [e7], by simp [hwp], by simp, by omega⟩)
    intro q st hst
    obtain ⟨e', j, rfl, f1, f5, f6, f7, f8, f21, hq⟩ := (hJ _ _).1 hst
    have hr := hwp_range s (4 * (n : Int)) j
    have hb := byt_range s (4 * (n : Int) + j)
    have w1 : IntKind.i64.wrap (4 * (n : Int) + j) = 4 * (n : Int) + j := w64_id (by omega) (by omega)
    have w2 : IntKind.u64.wrap (byt s (4 * (n : Int) + j)) = byt s (4 * (n : Int) + j) := u64_id hb.1 (by omega)
    have w3 : IntKind.i64.wrap ((j : Int) + 1) = ((j + 1 : Nat) : Int) := by rw [w64_id (by omega) (by omega)]; omega
    by_cases hj : j < 4
    · have hr2 : hwp s (4 * (n : Int)) j < 16777216 := by
        have : (256 : Int) ^ j ≤ 256 ^ 3 := by
          have : j = 0 ∨ j = 1 ∨ j = 2 ∨ j = 3 := by omega
          rcases this with rfl | rfl | rfl | rfl <;> decide
        omega
      have w4 : IntKind.u64.wrap (hwp s (4 * (n : Int)) j * 256) = hwp s (4 * (n : Int)) j * 256 := u64_id (by omega) (by omega)
      have hj' : ((j : Int) < 4) := by omega
      by_cases hc : 4 * (n : Int) + j < s.size
      · have hx := idx_str us9 (s := s) (k := .i64) (i := 4 * (n : Int) + j) (by omega) hc
        have ho := or_join (hwp s (4 * (n : Int)) j * 256) (byt s (4 * (n : Int) + j)) 8 (by omega) (by omega) (by omega) (by omega) (by omega) (by omega)
        simp [f1, f5, f6, f7, f8, f21, bin_shl, IntKind.bits, w1, w2, w3, w4, hj', hc, hx, ho]
        exact ⟨q - 1, by omega, (hJ _ _).2 ⟨_, j + 1, rfl, by simp [f1], by simp [f5], by simp [f6], by simp [f7], by simp [hwp], by simp, by omega⟩⟩
      · have hx := byt_out s (4 * (n : Int) + j) (by omega) (by omega)
        simp [f1, f5, f6, f7, f8, f21, bin_shl, IntKind.bits, w1, w3, w4, hj', hc]
        exact ⟨q - 1, by omega, (hJ _ _).2 ⟨_, j + 1, rfl, by simp [f1], by simp [f5], by simp [f6], by simp [f7], by simp [hwp, hx], by simp, by omega⟩⟩
    · have hj4 : j = 4 := by omega
      subst hj4
      have hw := hword_range s (4 * (n : Int))
      rw [hwp_word] at f8
      have w5 : IntKind.u64.wrap (hword s (4 * (n : Int)) + 1) = hword s (4 * (n : Int)) + 1 := u64_id (by omega) (by omega)
      have hm := field_Mul (a := hpoly a s n) (b := a) hp.1 (by omega) ha0 (by omega)
      obtain ⟨v, hv⟩ : ∃ v, v = hpoly a s n * a % 2305843009213693951 := ⟨_, rfl⟩
      rw [← hv] at hm
      have had := field_Add (a := v) (b := hword s (4 * (n : Int)) + 1) (by omega) (by omega) (by omega) (by omega)
      have w6 : IntKind.i64.wrap (4 * (n : Int) + 4) = 4 * (n : Int) + 4 := w64_id (by omega) (by omega)
      simp [f5, f6, f7, f8, f21, hm, w5, had, w6]
      refine ⟨k - 1, by omega, (hI _ _).2 ⟨_, n + 1, rfl, by simp [f1], by simp [f5], ?_, ?_, by omega⟩⟩
      · simp [hpoly, hv]
      · simp; omega

theorem hash_Cell {seed n : Int} {s : ByteArray} (h0 : 0 ≤ seed) (h1 : seed < 18446744073709551616) (hs : s.size ≤ 140737488351232) (hn : n < 9223372036854775808) : TV.pu 54 [cI .u64 seed, cS s, cI .i64 n] = some (cI .i64 (hcell seed s n)) := by
  refine run54 (by simp) ?_
  have hr := hsum_range seed s
  by_cases c : n < 1
  · simp [Tryd.f54, c, hcell]
  · have h2 := Int.emod_nonneg (hsum seed s) (show n ≠ 0 by omega)
    have h3 := Int.emod_lt_of_pos (hsum seed s) (show 0 < n by omega)
    have e1 : IntKind.u64.wrap n = n := u64_id (by omega) (by omega)
    have e2 : (hsum seed s).tmod n = hsum seed s % n := Int.tmod_eq_emod_of_nonneg hr.1
    have e3 : IntKind.i64.wrap (hsum seed s % n) = hsum seed s % n := w64_id (by omega) (by omega)
    have e4 : n ≠ 0 := by omega
    simp [Tryd.f54, c, hcell, hash_Sum h0 h1 hs, e1, bin_rem e4, e2, e3]

end Go.Proofs.YtonkhpeahbjmmaaDoorF
end

section
/- The document's numbers of the field, sums and cells of keys. -/
namespace Go.Proofs.YtonkhpeahbjmmaaDoorF
open Go Go.Proofs.Vm

theorem sbin_add {P : Program} {H : Hp} {t : TypeId} {x y : Operand} {u v : ByteArray} (h : u.size + v.size ≤ 9223372036854775807) : vbin P H .add t x y (vS u) (vS v) = qa (vS (u ++ v)) := by
  have h' : ¬ 9223372036854775807 < (u.size : Int) + (v.size : Int) := by omega
  simp [vbin, vbin0, neSl, isNils, isPtr, isNilp, AV.sc, Cell.sc, eqGuard, binOp, Op.stringOp, ofPv, one?, Value.oneCell', h']
theorem byt_app (a b : ByteArray) (i : Int) (h0 : 0 ≤ i) : byt (a ++ b) i = if i < a.size then byt a i else byt b (i - a.size) := by
  obtain ⟨n, rfl⟩ := Int.eq_ofNat_of_zero_le h0
  by_cases h : (n : Int) < a.size
  · have h' : n < a.size := by omega
    have e : (a ++ b)[(n : Int).toNat]? = a[(n : Int).toNat]? := by
      simp only [Int.toNat_natCast]
      rw [getElem?_pos (a ++ b) n (by simp; omega), getElem?_pos a n h']
      congr 1
      exact ByteArray.getElem_append_left h'
    rw [if_pos h]
    unfold byt
    rw [e]
  · have h' : a.size ≤ n := by omega
    have e : (a ++ b)[(n : Int).toNat]? = b[((n : Int) - a.size).toNat]? := by
      rw [show ((n : Int) - a.size).toNat = n - a.size by omega, Int.toNat_natCast]
      by_cases hb : n < a.size + b.size
      · rw [getElem?_pos (a ++ b) n (by simp; omega), getElem?_pos b (n - a.size) (by omega)]
        congr 1
        exact ByteArray.getElem_append_right h'
      · rw [getElem?_neg (a ++ b) n (by simp; omega), getElem?_neg b (n - a.size) (by omega)]
    rw [if_neg h]
    unfold byt
    rw [e]

theorem r1_Of {a : Int} (h0 : 0 ≤ a) (_h1 : a < 18446744073709551616) : TV.pu 90 [cI .u64 a] = some (cI .u64 (a % 2305843009213693951)) := by
  refine run90 (by simp) ?_
  have e : a.tmod 2305843009213693951 = a % 2305843009213693951 := Int.tmod_eq_emod_of_nonneg h0
  simp -implicitDefEqProofs [Tryd.f90, bin_rem, e]
theorem r1_Add {a b : Int} (h0 : 0 ≤ a) (_h1 : a < 18446744073709551616) (h2 : 0 ≤ b) (_h3 : b < 18446744073709551616) : TV.pu 63 [cI .u64 a, cI .u64 b] = some (cI .u64 ((a + b) % 2305843009213693951)) := by
  refine run63 (by simp) ?_
  have e1 : a.tmod 2305843009213693951 = a % 2305843009213693951 := Int.tmod_eq_emod_of_nonneg h0
  have e2 : b.tmod 2305843009213693951 = b % 2305843009213693951 := Int.tmod_eq_emod_of_nonneg h2
  have e3 : IntKind.u64.wrap (a % 2305843009213693951 + b % 2305843009213693951) = a % 2305843009213693951 + b % 2305843009213693951 := u64_id (by omega) (by omega)
  have e4 : (a % 2305843009213693951 + b % 2305843009213693951).tmod 2305843009213693951 = (a + b) % 2305843009213693951 := by rw [Int.tmod_eq_emod_of_nonneg (by omega)]; omega
  simp -implicitDefEqProofs [Tryd.f63, bin_rem, e1, e2, e3, e4]
theorem r1_Mul {a b : Int} (h0 : 0 ≤ a) (_h1 : a < 18446744073709551616) (h2 : 0 ≤ b) (_h3 : b < 18446744073709551616) : TV.pu 62 [cI .u64 a, cI .u64 b] = some (cI .u64 (a * b % 2305843009213693951)) := by
  refine run62 (by simp) ?_
  have e1 : a.tmod 2305843009213693951 = a % 2305843009213693951 := Int.tmod_eq_emod_of_nonneg h0
  have e2 : b.tmod 2305843009213693951 = b % 2305843009213693951 := Int.tmod_eq_emod_of_nonneg h2
  simp -implicitDefEqProofs [Tryd.f62, bin_rem, e1, e2]
  obtain ⟨I, hI⟩ : ∃ I : Nat → St → Prop, ∀ k s, I k s ↔ (∃ e y o, s = ⟨e, []⟩ ∧ e 0 = vI .u64 y ∧ e 1 = vI .u64 (k : Nat) ∧ e 5 = vI .u64 o ∧ 0 ≤ y ∧ y < 2305843009213693951 ∧ 0 ≤ o ∧ o < 2305843009213693951 ∧ (k : Int) < 18446744073709551616 ∧ (o + y * k) % 2305843009213693951 = a * b % 2305843009213693951) := ⟨_, fun _ _ => Iff.rfl⟩
  have hb : ((b % 2305843009213693951).toNat : Int) = b % 2305843009213693951 := Int.toNat_of_nonneg (by omega)
  refine wpL_ind I ?_ (b % 2305843009213693951).toNat _ ((hI _ _).2 ⟨_, a % 2305843009213693951, 0, rfl, by simp, by simp [hb], by simp, by omega, by omega, by omega, by omega, by omega, by rw [hb, Int.zero_add, ← Int.mul_emod]⟩)
  intro k s hs
  obtain ⟨e, y, o, rfl, e0, e1, e5, y0, y1, o0, o1, k1, hk⟩ := (hI _ _).1 hs
  have t1 : ((k : Int)).tmod 2 = (k : Int) % 2 := Int.tmod_eq_emod_of_nonneg (by omega)
  have t2 : IntKind.u64.wrap ((k : Int).tdiv 2) = ((k / 2 : Nat) : Int) := by
    rw [Int.tdiv_eq_ediv_of_nonneg (by omega), u64_id (by omega) (by omega)]; omega
  have t2' : IntKind.u64.wrap ((k : Int) / 2) = (k : Int) / 2 := u64_id (by omega) (by omega)
  have t3 : IntKind.u64.wrap (y + y) = y + y := u64_id (by omega) (by omega)
  have t4 : (y + y).tmod 2305843009213693951 = (y + y) % 2305843009213693951 := Int.tmod_eq_emod_of_nonneg (by omega)
  have t5 : IntKind.u64.wrap (o + y) = o + y := u64_id (by omega) (by omega)
  have t6 : (o + y).tmod 2305843009213693951 = (o + y) % 2305843009213693951 := Int.tmod_eq_emod_of_nonneg (by omega)
  have key : ∀ c : Int, (c + (y + y) % 2305843009213693951 * ((k / 2 : Nat) : Int)) % 2305843009213693951 = (c + y * (2 * ((k / 2 : Nat) : Int))) % 2305843009213693951 := by
    intro c
    have : (y + y) * ((k / 2 : Nat) : Int) = y * (2 * ((k / 2 : Nat) : Int)) := by grind
    rw [Int.add_emod, Int.mul_emod, Int.emod_emod_of_dvd _ (Int.dvd_refl _), ← Int.mul_emod, ← Int.add_emod, this]
  by_cases c : k = 0
  · subst c
    simp at hk
    have : o % 2305843009213693951 = o := Int.emod_eq_of_lt o0 o1
    simp -implicitDefEqProofs [e1, e5]
    rw [← hk, this]
  · have c' : 0 < (k : Int) := by omega
    have c2 : 0 < k := by omega
    by_cases d : (k : Int) % 2 = 1
    · simp -implicitDefEqProofs [e0, e1, e5, c2, bin_rem, bin_quo, t1, t2', t3, t4, t5, t6, d]
      refine ⟨k / 2, by omega, (hI _ _).2 ⟨_, (y + y) % 2305843009213693951, (o + y) % 2305843009213693951, rfl, by simp, by simp, by simp, by omega, by omega, by omega, by omega, by omega, ?_⟩⟩
      rw [key, ← hk, Int.emod_add_emod]
      congr 1
      have : (k : Int) = 2 * ((k / 2 : Nat) : Int) + 1 := by omega
      rw [this]
      grind
    · have d' : ((k : Int) % 2 == 1) = false := by simpa using d
      simp -implicitDefEqProofs [e0, e1, c2, bin_rem, bin_quo, t1, t2', t3, t4, d']
      refine ⟨k / 2, by omega, (hI _ _).2 ⟨_, (y + y) % 2305843009213693951, o, rfl, by simp, by simp, by simp [e5], by omega, by omega, by omega, by omega, by omega, ?_⟩⟩
      rw [key, ← hk]
      congr 2
      have : (k : Int) = 2 * ((k / 2 : Nat) : Int) := by omega
      rw [this]
theorem r1_Pow {x : Int} (h0 : 0 ≤ x) (h1 : x < 18446744073709551616) : ∀ (N n : Nat), n < N → (n : Int) < 18446744073709551616 → TV.pu 64 [cI .u64 x, cI .u64 n] = some (cI .u64 (x ^ n % 2305843009213693951)) := by
  intro N
  induction N with
  | zero => intro n h; omega
  | succ N ih =>
    intro n hn hn2
    refine run64 (by simp) ?_
    by_cases c : n = 0
    · subst c
      simp -implicitDefEqProofs [Tryd.f64]
    · have c' : ¬ (n : Int) = 0 := by omega
      have hr := ih (n / 2) (by omega) (by omega)
      rw [show ((n / 2 : Nat) : Int) = (n : Int) / 2 by omega] at hr
      have t1 : (n : Int).tmod 2 = (n : Int) % 2 := Int.tmod_eq_emod_of_nonneg (by omega)
      have t2 : IntKind.u64.wrap ((n : Int).tdiv 2) = ((n / 2 : Nat) : Int) := by
        rw [Int.tdiv_eq_ediv_of_nonneg (by omega), u64_id (by omega) (by omega)]; omega
      have t2' : IntKind.u64.wrap ((n : Int) / 2) = (n : Int) / 2 := u64_id (by omega) (by omega)
      obtain ⟨v, hv⟩ : ∃ v, v = x ^ (n / 2) % 2305843009213693951 := ⟨_, rfl⟩
      rw [← hv] at hr
      have hm := r1_Mul (a := v) (b := v) (by omega) (by omega) (by omega) (by omega)
      obtain ⟨u, hu⟩ : ∃ u, u = v * v % 2305843009213693951 := ⟨_, rfl⟩
      rw [← hu] at hm
      have hm2 := r1_Mul (a := u) (b := x) (by omega) (by omega) h0 h1
      have hu2 : u = x ^ (2 * (n / 2)) % 2305843009213693951 := by
        rw [hu, hv, ← Int.mul_emod, ← Int.pow_add]
        congr 2; omega
      by_cases d : (n : Int) % 2 = 1
      · have e : x ^ n % 2305843009213693951 = u * x % 2305843009213693951 := by
          rw [hu2, Int.mul_emod, Int.emod_emod_of_dvd _ (Int.dvd_refl _), ← Int.mul_emod, ← Int.pow_succ]
          congr 2; omega
        rw [e]
        simp -implicitDefEqProofs [Tryd.f64, c, bin_rem, bin_quo, t1, t2', hr, hm, hm2, d]
      · have d' : ((n : Int) % 2 == 1) = false := by simpa using d
        have e : x ^ n % 2305843009213693951 = u := by
          rw [hu2]
          congr 2; omega
        rw [e]
        simp -implicitDefEqProofs [Tryd.f64, c, bin_rem, bin_quo, t1, t2', hr, hm, d']

def cU (n : Int) : List CV := [.v (.int .u64 n)]
def hwords (s : ByteArray) : List Int := (List.range (nwords s)).map fun (q : Nat) => hword s (4 * (q : Int))
theorem hwords_len (s : ByteArray) : (hwords s).length = nwords s := by simp [hwords]

set_option maxRecDepth 10000 in
theorem r2_words {s : ByteArray} (hs : s.size ≤ 1000) : TV.pu 91 [cS s] = some (.one (.arr ((hwords s).map cU))) := by
  refine run91 (by simp) ?_
  simp -implicitDefEqProofs [Tryd.f91, vmove, isNil]
  obtain ⟨I, hI⟩ : ∃ I : Nat → St → Prop, ∀ k st, I k st ↔ (∃ e z E L, st = ⟨e, E :: .clo [] false :: L⟩ ∧ e 0 = vS z ∧ e 3 = .one (.sl 1 0 0 0) ∧ (∀ i : Int, 0 ≤ i → byt z i = byt s i) ∧ k = (4 - z.size % 4) % 4 ∧ z.size ≤ s.size + (4 - s.size % 4) % 4 ∧ s.size ≤ z.size) := ⟨_, fun _ _ => Iff.rfl⟩
  refine wpL_ind I ?_ ((4 - s.size % 4) % 4) _ ((hI _ _).2 ⟨_, s, _, _, rfl, by simp, by simp, fun _ _ => rfl, rfl, by omega, Nat.le_refl _⟩)
  intro k st hst
  obtain ⟨e, z, E, L, rfl, e0, e3, hz, hk, hz1, hz2⟩ := (hI _ _).1 hst
  have t1 : (z.size : Int).tmod 4 = ((z.size % 4 : Nat) : Int) := by rw [Int.tmod_eq_emod_of_nonneg (by omega)]; omega
  by_cases c : z.size % 4 = 0
  · have c1 : ((z.size : Int).tmod 4 != 0) = false := by rw [t1, c]; rfl
    have hzn : z.size = 4 * nwords s := by unfold nwords; omega
    simp -implicitDefEqProofs [e0, bin_rem, c1]
    obtain ⟨J, hJ⟩ : ∃ J : Nat → St → Prop, ∀ k st, J k st ↔ (∃ e j L, st = ⟨e, E :: .clo (tk cU (hwords s) j) false :: L⟩ ∧ e 0 = vS z ∧ e 3 = .one (.sl 1 0 j j) ∧ e 4 = vI .i64 (4 * (j : Nat) : Int) ∧ j + k = nwords s) := ⟨_, fun _ _ => Iff.rfl⟩
    refine wpL_ind J ?_ (nwords s) _ ((hJ _ _).2 ⟨_, 0, _, by rw [tk_zero], by simp [e0], by simp [e3], by simp, by omega⟩)
    intro k2 st2 hst2
    obtain ⟨e', j, L2, rfl, f0, f3, f4, hk2⟩ := (hJ _ _).1 hst2
    by_cases d : j < nwords s
    · have d' : 4 * (j : Int) < (z.size : Int) := by omega
      have g0 := byt_range z (4 * (j : Int)); have g1 := byt_range z (4 * (j : Int) + 1); have g2 := byt_range z (4 * (j : Int) + 2); have g3 := byt_range z (4 * (j : Int) + 3)
      have x0 := idx_str (P := Tryd.prog) us9 (s := z) (k := .i64) (i := 4 * (j : Int)) (by omega) d'
      have x1 := idx_str (P := Tryd.prog) us9 (s := z) (k := .i64) (i := 4 * (j : Int) + 1) (by omega) (by omega)
      have x2 := idx_str (P := Tryd.prog) us9 (s := z) (k := .i64) (i := 4 * (j : Int) + 2) (by omega) (by omega)
      have x3 := idx_str (P := Tryd.prog) us9 (s := z) (k := .i64) (i := 4 * (j : Int) + 3) (by omega) (by omega)
      have hw : hword s (4 * (j : Int)) = byt z (4 * (j : Int)) * 16777216 + byt z (4 * (j : Int) + 1) * 65536 + byt z (4 * (j : Int) + 2) * 256 + byt z (4 * (j : Int) + 3) := by
        rw [hz _ (by omega), hz _ (by omega), hz _ (by omega), hz _ (by omega)]
        unfold hword; omega
      have jl : j < (hwords s).length := by rw [hwords_len]; exact d
      have hwj : (hwords s)[j] = hword s (4 * (j : Int)) := by simp [hwords]
      have htl : (tk cU (hwords s) j).length = j := tk_len (by omega)
      have htm : AllLen (tk cU (hwords s) j) 1 := tk_allLen fun _ => rfl
      have htk : tk cU (hwords s) j ++ [[.v (.int .u64 (byt z (4 * (j : Int)) * 16777216 + byt z (4 * (j : Int) + 1) * 65536 + byt z (4 * (j : Int) + 2) * 256 + byt z (4 * (j : Int) + 3)))]] = tk cU (hwords s) (j + 1) := by
        rw [← tk_succ jl, hwj, hw]; rfl
      generalize byt z (4 * (j : Int)) = b0 at *
      generalize byt z (4 * (j : Int) + 1) = b1 at *
      generalize byt z (4 * (j : Int) + 2) = b2 at *
      generalize byt z (4 * (j : Int) + 3) = b3 at *
      have y1 : IntKind.i64.wrap (4 * (j : Int) + 1) = 4 * (j : Int) + 1 := w64_id (by omega) (by omega)
      have y2 : IntKind.i64.wrap (4 * (j : Int) + 2) = 4 * (j : Int) + 2 := w64_id (by omega) (by omega)
      have y3 : IntKind.i64.wrap (4 * (j : Int) + 3) = 4 * (j : Int) + 3 := w64_id (by omega) (by omega)
      have y4 : IntKind.i64.wrap (4 * (j : Int) + 4) = 4 * (j : Int) + 4 := w64_id (by omega) (by omega)
      have u0 : IntKind.u64.wrap b0 = b0 := u64_id g0.1 (by omega)
      have u1 : IntKind.u64.wrap b1 = b1 := u64_id g1.1 (by omega)
      have u2 : IntKind.u64.wrap b2 = b2 := u64_id g2.1 (by omega)
      have u3 : IntKind.u64.wrap b3 = b3 := u64_id g3.1 (by omega)
      have v0 : IntKind.u64.wrap (b0 * 16777216) = b0 * 16777216 := u64_id (by omega) (by omega)
      have v1 : IntKind.u64.wrap (b1 * 65536) = b1 * 65536 := u64_id (by omega) (by omega)
      have v2 : IntKind.u64.wrap (b2 * 256) = b2 * 256 := u64_id (by omega) (by omega)
      have v3 : IntKind.u64.wrap (b0 * 16777216 + b1 * 65536) = b0 * 16777216 + b1 * 65536 := u64_id (by omega) (by omega)
      have v4 : IntKind.u64.wrap (b0 * 16777216 + b1 * 65536 + b2 * 256) = b0 * 16777216 + b1 * 65536 + b2 * 256 := u64_id (by omega) (by omega)
      have v5 : IntKind.u64.wrap (b0 * 16777216 + b1 * 65536 + b2 * 256 + b3) = b0 * 16777216 + b1 * 65536 + b2 * 256 + b3 := u64_id (by omega) (by omega)
      have hsz : nwords s ≤ 300 := by unfold nwords; omega
      have b1 : 8 * (j + 1) ≤ 140737488355328 := by omega
      have b2 : j + 1 ≤ 4611686018427387904 := by omega
      simp -implicitDefEqProofs [f0, f3, f4, d', x0, x1, x2, x3, y1, y2, y3, y4, u0, u1, u2, u3, v0, v1, v2, v3, v4, v5, vappend_sp es133 es133 el22, vbuildSlice_eq es133 el22, cellsOf?, fzParts, setAll, rchParts, rch, elemsOf, htl, htm, htk, b1, b2]
      exact ⟨k2 - 1, by omega, (hJ _ _).2 ⟨_, j + 1, _, rfl, by simp [f0], by simp, by simp; omega, by omega⟩⟩
    · have d' : ¬ 4 * (j : Int) < (z.size : Int) := by omega
      have hj : j = (hwords s).length := by rw [hwords_len]; omega
      have hta := tk_all (f := cU) (l := hwords s) (i := j) (by omega)
      have hln := hwords_len s
      have htt : ((hwords s).map cU).take j = (hwords s).map cU := List.take_of_length_le (by simp; omega)
      simp -implicitDefEqProofs [f0, f3, f4, d', hta, htt, ← hj]
  · have c1 : ((z.size : Int).tmod 4 != 0) = true := by rw [t1]; simp; omega
    have hst0 : strOf [0] = ⟨#[0]⟩ := rfl
    have hza : z.size + (⟨#[0]⟩ : ByteArray).size ≤ 9223372036854775807 := by have : (⟨#[0]⟩ : ByteArray).size = 1 := rfl
                                                                              omega
    have hz3 : (z ++ ⟨#[0]⟩ : ByteArray).size = z.size + 1 := by simp; rfl
    simp -implicitDefEqProofs [e0, bin_rem, c1, sbin_add hza, vbuildSlice_eq es143 el5, cellsOf?, fzParts, setAll, rchParts, rch, elemsOf, vconvW, bytesRow', hst0]
    refine ⟨k - 1, by omega, (hI _ _).2 ⟨_, z ++ ⟨#[0]⟩, _, _, rfl, by simp, by simp [e3], fun i hi => ?_, by rw [hz3]; omega, by rw [hz3]; omega, by rw [hz3]; omega⟩⟩
    rw [byt_app _ _ _ hi]
    split
    · exact hz i hi
    · rename_i h
      rw [byt_out s i hi (by omega)]
      have : (⟨#[0]⟩ : ByteArray).size = 1 := rfl
      by_cases hq : i - z.size = 0
      · rw [hq]; rfl
      · exact byt_out _ _ (by omega) (by rw [this]; omega)

theorem r2_Sum {seed : Int} {s : ByteArray} (h0 : 0 ≤ seed) (h1 : seed < 18446744073709551616) (hs : s.size ≤ 1000) : TV.pu 71 [cI .u64 seed, cS s] = some (cI .u64 (hsum seed s)) := by
  refine run71 (by simp) ?_
  have ha := r1_Add (a := seed) (b := 2) h0 h1 (by omega) (by omega)
  have ew : IntKind.u64.wrap (s.size : Int) = s.size := u64_id (by omega) (by omega)
  have ho := r1_Of (a := (s.size : Int)) (by omega) (by omega)
  have hw := r2_words hs
  obtain ⟨a, hae⟩ : ∃ a, a = (seed + 2) % 2305843009213693951 := ⟨_, rfl⟩
  rw [← hae] at ha
  simp -implicitDefEqProofs [Tryd.f71, ha, ew, ho, hw]
  obtain ⟨I, hI⟩ : ∃ I : Nat → St → Prop, ∀ k s', I k s' ↔ (∃ e n, s' = ⟨e, []⟩ ∧ e 5 = vI .u64 a ∧ e 6 = vI .u64 (hpoly a s n) ∧ e 7 = .one (.c (.arr ((hwords s).map cU))) ∧ e 8 = vI .i64 (n : Nat) ∧ n + k = nwords s) := ⟨_, fun _ _ => Iff.rfl⟩
  refine wpL_ind I ?_ (nwords s) _ ((hI _ _).2 ⟨_, 0, rfl, by simp, by simp [hpoly], by simp, by simp, by omega⟩)
  intro k st hst
  obtain ⟨e, n, rfl, e5, e6, e7, e8, hk⟩ := (hI _ _).1 hst
  have hp := hpoly_range a s n
  have hln := hwords_len s
  by_cases c : n < nwords s
  · have hsz : nwords s ≤ 300 := by unfold nwords; omega
    have w1 : IntKind.i64.wrap ((n : Int) + 1) = ((n + 1 : Nat) : Int) := by rw [w64_id (by omega) (by omega)]; omega
    have hnl : n < (hwords s).length := by rw [hln]; exact c
    have hwj : (hwords s)[n] = hword s (4 * (n : Int)) := by simp [hwords]
    have hwr := hword_range s (4 * (n : Int))
    have hm := r1_Mul (a := a) (b := hpoly a s n) (by omega) (by omega) hp.1 (by omega)
    have h2 := r1_Add (a := hword s (4 * (n : Int))) (b := 1) (by omega) (by omega) (by omega) (by omega)
    obtain ⟨v, hv⟩ : ∃ v, v = a * hpoly a s n % 2305843009213693951 := ⟨_, rfl⟩
    obtain ⟨u, hu⟩ : ∃ u, u = (hword s (4 * (n : Int)) + 1) % 2305843009213693951 := ⟨_, rfl⟩
    rw [← hv] at hm
    rw [← hu] at h2
    have h3 := r1_Add (a := v) (b := u) (by omega) (by omega) (by omega) (by omega)
    have he : (v + u) % 2305843009213693951 = hpoly a s (n + 1) := by
      simp only [hpoly]
      rw [hv, hu, ← Int.add_emod, Int.mul_comm]
    rw [he] at h3
    simp -implicitDefEqProofs [e5, e6, e7, e8, c, hln, cU, hwj, hm, h2, h3, w1]
    exact ⟨k - 1, by omega, (hI _ _).2 ⟨_, n + 1, rfl, by simp [e5], by simp, by simp [e7], by simp, by omega⟩⟩
  · have hn : n = nwords s := by omega
    have hm := r1_Mul (a := a) (b := hpoly a s n) (by omega) (by omega) hp.1 (by omega)
    obtain ⟨v, hv⟩ : ∃ v, v = a * hpoly a s n % 2305843009213693951 := ⟨_, rfl⟩
    rw [← hv] at hm
    have hw := r1_Pow (x := v) (by omega) (by omega) 18 17 (by omega) (by omega)
    have he : v ^ 17 % 2305843009213693951 = hsum seed s := by
      unfold hsum
      rw [← hae, ← hn, hv, Int.mul_comm]
    simp only [Int.cast_ofNat_Int] at hw
    rw [he] at hw
    simp -implicitDefEqProofs [e5, e6, e7, e8, c, hln, hm, hw]
theorem r2_Row {s i : Int} (h0 : 0 ≤ s) (h1 : s < 18446744073709551616) (h2 : i < 9223372036854775808) (h3 : -9223372036854775808 ≤ i) : TV.pu 38 [cI .u64 s, cI .i64 i] = some (cI .u64 (hrow s i)) := by
  refine run38 (by simp) ?_
  obtain ⟨j, hj⟩ : ∃ j, j = if i < 0 then 0 else i := ⟨_, rfl⟩
  have hj0 : 0 ≤ j := by rw [hj]; split <;> omega
  have hj1 : j < 9223372036854775808 := by rw [hj]; split <;> omega
  obtain ⟨v1, h1'⟩ : ∃ v, v = (s + 3) % 2305843009213693951 := ⟨_, rfl⟩
  obtain ⟨v2, h2'⟩ : ∃ v, v = (j + 2) % 2305843009213693951 := ⟨_, rfl⟩
  obtain ⟨v3, h3'⟩ : ∃ v, v = v1 * v2 % 2305843009213693951 := ⟨_, rfl⟩
  obtain ⟨v4, h4'⟩ : ∃ v, v = (v3 + 5) % 2305843009213693951 := ⟨_, rfl⟩
  have e1 := r1_Add (a := s) (b := 3) h0 h1 (by omega) (by omega)
  have e2 := r1_Add (a := j) (b := 2) hj0 (by omega) (by omega) (by omega)
  have e3 := r1_Mul (a := v1) (b := v2) (by omega) (by omega) (by omega) (by omega)
  have e4 := r1_Add (a := v3) (b := 5) (by omega) (by omega) (by omega) (by omega)
  have e5 := r1_Pow (x := v4) (by omega) (by omega) 3 2 (by omega) (by omega)
  simp only [Int.cast_ofNat_Int] at e5
  rw [← h1'] at e1
  rw [← h2'] at e2
  rw [← h3'] at e3
  rw [← h4'] at e4
  have ew : IntKind.u64.wrap j = j := u64_id hj0 (by omega)
  have hv : hrow s i = v4 ^ 2 % 2305843009213693951 := by
    unfold hrow
    rw [← hj]
    have : v3 = (s + 3) * (j + 2) % 2305843009213693951 := by rw [h3', h1', h2', ← Int.mul_emod]
    have : v4 = ((s + 3) * (j + 2) + 5) % 2305843009213693951 := by omega
    rw [this]
  rw [hv]
  by_cases c : i < 0
  · have hj2 : j = 0 := by rw [hj, if_pos c]
    subst hj2
    simp -implicitDefEqProofs [Tryd.f38, c, e1, ew, e2, e3, e4, e5]
  · have hj2 : j = i := by rw [hj, if_neg c]
    subst hj2
    simp -implicitDefEqProofs [Tryd.f38, c, e1, ew, e2, e3, e4, e5]
theorem r2_Cell {seed n : Int} {s : ByteArray} (h0 : 0 ≤ seed) (h1 : seed < 18446744073709551616) (hs : s.size ≤ 1000) (hn : n < 9223372036854775808) : TV.pu 69 [cI .u64 seed, cS s, cI .i64 n] = some (cI .i64 (hcell seed s n)) := by
  refine run69 (by simp) ?_
  have hr := hsum_range seed s
  by_cases c : n < 1
  · simp [Tryd.f69, c, hcell]
  · have h2 := Int.emod_nonneg (hsum seed s) (show n ≠ 0 by omega)
    have h3 := Int.emod_lt_of_pos (hsum seed s) (show 0 < n by omega)
    have e1 : IntKind.u64.wrap n = n := u64_id (by omega) (by omega)
    have e2 : (hsum seed s).tmod n = hsum seed s % n := Int.tmod_eq_emod_of_nonneg hr.1
    have e3 : IntKind.i64.wrap (hsum seed s % n) = hsum seed s % n := w64_id (by omega) (by omega)
    have e4 : n ≠ 0 := by omega
    simp [Tryd.f69, c, hcell, r2_Sum h0 h1 hs, e1, bin_rem e4, e2, e3]
end Go.Proofs.YtonkhpeahbjmmaaDoorF
end

section
/- A key's level, by the program and by the document. -/
set_option maxRecDepth 8192
set_option maxHeartbeats 1000000
namespace Go.Proofs.YtonkhpeahbjmmaaDoorF
open Go Go.Proofs.Vm

/-- How many of the lowest bits are nought, at most so many. -/
def tzU : Nat → Int → Nat
  | 0, _ => 0
  | m + 1, s => if s % 2 = 0 then tzU m (s / 2) + 1 else 0
theorem tzU_le : ∀ (m : Nat) (s : Int), tzU m s ≤ m
  | 0, _ => Nat.le_refl _
  | m + 1, s => by
    unfold tzU
    split
    · have := tzU_le m (s / 2); omega
    · omega
theorem tzU_zero : ∀ m : Nat, tzU m 0 = m
  | 0 => rfl
  | m + 1 => by unfold tzU; rw [if_pos (by decide)]; show tzU m 0 + 1 = m + 1; rw [tzU_zero m]
theorem tzU_ctz : ∀ (m f x : Nat), 0 < x → x < 2 ^ f → min (Lib.ctzFrom f x) m = tzU m (x : Int)
  | 0, f, x, _, _ => by simp [tzU]
  | m + 1, 0, x, h0, h => by simp at h; omega
  | m + 1, f + 1, x, h0, h => by
    unfold tzU Lib.ctzFrom
    by_cases hx : x % 2 = 1
    · rw [if_pos hx, if_neg (by omega)]; simp
    · rw [if_neg hx, if_pos (by omega)]
      have := tzU_ctz m f (x / 2) (by omega) (by rw [Nat.pow_succ] at h; omega)
      have e : ((x : Int) / 2) = ((x / 2 : Nat) : Int) := by omega
      rw [e, ← this]
      omega
def hlev (seed : Int) (s : ByteArray) (most : Int) : Int := (tzU most.toNat (hsum seed s) : Nat)
theorem hlev_range (seed : Int) (s : ByteArray) (most : Int) : 0 ≤ hlev seed s most ∧ hlev seed s most ≤ max most 0 := by
  have := tzU_le most.toNat (hsum seed s)
  unfold hlev; omega
theorem tz64 {x : Int} (h0 : 0 ≤ x) (h1 : x < 18446744073709551616) : TV.pu 51 [cI .u64 x] = some (cI .i64 (Lib.ctz 64 x.toNat)) := by
  refine TT_base ?_
  show (match (if (51 : FuncId) = 51 then tzRun [cI .u64 x] else none) with | some r => some r | none => _) = _
  rw [if_pos rfl]
  simp only [tzRun]
  rw [if_pos ⟨h0, h1⟩]
theorem hash_Level {seed most : Int} {s : ByteArray} (h0 : 0 ≤ seed) (h1 : seed < 18446744073709551616) (hs : s.size ≤ 140737488351232) (hm0 : -9223372036854775808 ≤ most) (hm1 : most < 9223372036854775808) : TV.pu 25 [cI .u64 seed, cS s, cI .i64 most] = some (cI .i64 (hlev seed s most)) := by
  refine run25 (by simp) ?_
  have hS := hash_Sum (seed := seed) (s := s) h0 h1 hs
  have hr := hsum_range seed s
  obtain ⟨x, hx⟩ : ∃ x, hsum seed s = x := ⟨_, rfl⟩
  unfold hlev
  rw [hx] at hS hr ⊢
  by_cases hz : x = 0
  · subst hz
    have e : (if most < 0 then 0 else most) = ((tzU most.toNat 0 : Nat) : Int) := by rw [tzU_zero]; split <;> omega
    simp -implicitDefEqProofs [Tryd.f25, hS, e]
  · obtain ⟨n, rfl⟩ := Int.eq_ofNat_of_zero_le hr.1
    have ht := tz64 (x := (n : Int)) hr.1 (by omega)
    have hn0 : n ≠ 0 := by omega
    have hc : Lib.ctz 64 n = Lib.ctzFrom 64 n := by unfold Lib.ctz; rw [if_neg hn0]
    have hmin := tzU_ctz most.toNat 64 n (by omega) (by omega)
    rw [Int.toNat_natCast, hc] at ht
    obtain ⟨c, hcc⟩ : ∃ c, Lib.ctzFrom 64 n = c := ⟨_, rfl⟩
    rw [hcc] at ht hmin
    have e : (if (if most < (c : Int) then most else (c : Int)) < 0 then 0 else (if most < (c : Int) then most else (c : Int))) = ((tzU most.toNat (n : Int) : Nat) : Int) := by rw [← hmin]; split <;> split <;> omega
    simp -implicitDefEqProofs [Tryd.f25, hS, hn0, ht, e]
theorem r2_Level {seed most : Int} {s : ByteArray} (h0 : 0 ≤ seed) (h1 : seed < 18446744073709551616) (hs : s.size ≤ 1000) (hm0 : -9223372036854775808 ≤ most) (hm1 : most < 9223372036854775808) : TV.pu 46 [cI .u64 seed, cS s, cI .i64 most] = some (cI .i64 (hlev seed s most)) := by
  refine run46 (by simp) ?_
  have hS := r2_Sum (seed := seed) (s := s) h0 h1 hs
  have hr := hsum_range seed s
  obtain ⟨x, hx⟩ : ∃ x, hsum seed s = x := ⟨_, rfl⟩
  unfold hlev
  rw [hx] at hS hr ⊢
  obtain ⟨res, hres⟩ : ∃ res, tzU most.toNat x = res := ⟨_, rfl⟩
  rw [hres]
  simp -implicitDefEqProofs [Tryd.f46, hS]
  obtain ⟨I, hI⟩ : ∃ I : Nat → St → Prop, ∀ k s', I k s' ↔ (∃ e n y L, s' = ⟨e, L⟩ ∧ e 2 = vI .i64 most ∧ e 7 = vI .i64 (n : Nat) ∧ e 8 = vI .u64 y ∧ (n + k = most.toNat) ∧ (0 ≤ y) ∧ (y < 18446744073709551616) ∧ (n + tzU k y = res)) := ⟨_, fun _ _ => Iff.rfl⟩
  refine wpL_ind I ?_ most.toNat _ ((hI _ _).2 ⟨_, 0, x, _, (by first | rfl | (simp; done) | (simp; rfl) | (simp; and_intros <;> rfl)), by simp, by simp, by simp, by omega, by omega, by omega, by rw [hres]; omega⟩)
  intro k stI hstI
  obtain ⟨e, n, y, L, rfl, e2, e7, e8, hk, hy0, hy1, hn⟩ := (hI _ _).1 hstI
  by_cases c : (n : Int) < most
  rotate_left
  · have hk0 : k = 0 := by omega
    subst hk0
    have : n = res := by rw [← hn]; rfl
    subst this
    simp -implicitDefEqProofs [e2, e7, c]
  · obtain ⟨k', rfl⟩ : ∃ k', k = k' + 1 := ⟨k - 1, by omega⟩
    have w1 : IntKind.i64.wrap ((n : Int) + 1) = ((n + 1 : Nat) : Int) := by rw [w64_id (by omega) (by omega)]; omega
    have ht : y.tmod 2 = y % 2 := Int.tmod_eq_emod_of_nonneg hy0
    have hq : y.tdiv 2 = y / 2 := Int.tdiv_eq_ediv_of_nonneg hy0
    have wq : IntKind.u64.wrap (y / 2) = y / 2 := u64_id (by omega) (by omega)
    rw [tzU] at hn
    by_cases d : y % 2 = 0
    · rw [if_pos d] at hn
      simp -implicitDefEqProofs [e2, e7, e8, c, ht, hq, d, w1, bin_rem, bin_quo]
      exact ⟨k', by omega, (hI _ _).2 ⟨_, n + 1, y / 2, _, (by first | rfl | (simp [hq, wq, w1]; done) | (simp [hq, wq, w1]; rfl) | (simp [hq, wq, w1]; and_intros <;> rfl)), by simp [e2, wq], by simp [wq], by simp [wq], by omega, by omega, by omega, by omega⟩⟩
    · rw [if_neg d] at hn
      have : n = res := by omega
      subst this
      simp -implicitDefEqProofs [e2, e7, e8, c, ht, d, bin_rem]
end Go.Proofs.YtonkhpeahbjmmaaDoorF
end

section
/- Slices of bools. -/
set_option maxRecDepth 8192
set_option maxHeartbeats 1000000
namespace Go.Proofs.YtonkhpeahbjmmaaDoorF
open Go Go.Proofs.Vm

def cB1 (b : Bool) : List CV := [.v (.bool b)]
theorem cB1_all (l : List Bool) : AllLen (l.map cB1) 1 := by intro x hx; obtain ⟨y, _, rfl⟩ := List.mem_map.1 hx; rfl
theorem take_b (l : List Bool) : (l.map cB1).take l.length = l.map cB1 := List.take_of_length_le (by simp)
theorem wr_bit (l : List Bool) (i : Nat) (b : Bool) : Ent.wrC (l.map cB1) i 0 [.v (.bool b)] = (l.set i b).map cB1 := by
  unfold Ent.wrC
  apply List.ext_getElem?
  intro j
  rw [List.getElem?_modify, List.getElem?_map, List.getElem?_map, List.getElem?_set]
  by_cases h : i = j
  · subst h
    cases hl : l[i]? with
    | none =>
      have := List.getElem?_eq_none_iff.1 hl
      simp; omega
    | some x =>
      have := (List.getElem?_eq_some_iff.1 hl).1
      simp [cB1, wr, this]
  · simp [h]
theorem ap_get (H L : Hp) (j : Nat) : (H ++ L)[H.length + j]? = L[j]? := by rw [List.getElem?_append_right (by omega), Nat.add_sub_cancel_left]
theorem ap_get0 (H L : Hp) : (H ++ L)[H.length]? = L[0]? := ap_get H L 0
theorem bool_Clone {r : List Bool} {H : Hp} (h0 : r ≠ []) (hl : r.length ≤ 100000) : TV.S 57 [.one (.c (.arr (r.map cB1)))] H = some (.one (.sl (H.length + 1) 0 r.length r.length), H ++ [.clo [] false, .clo (r.map cB1) false]) := by
  refine run57 (by simp) (by simp) ?_
  have ha := vappend_eq (P := Tryd.prog) (H := H ++ [.clo [] false, .clo [] false]) (t := 53) (tx := 53) (id := H.length + 1) (n := 0) (l := []) (xs := r.map cB1) (x := .one (.c (.arr (r.map cB1)))) es53 es53 el4
    (by simp) rfl rfl (by simp) (cB1_all r) (by simp; omega) (by simp; omega)
  obtain ⟨x, t, rfl⟩ : ∃ h t, r = h :: t := by cases r with | nil => exact absurd rfl h0 | cons h t => exact ⟨h, t, rfl⟩
  simp at ha
  simp [Tryd.f57, vmove, isNil, bin_sln es53, bs_zero es53 el4, ha]
def cBr (r : List Bool) : CV := .arr (r.map cB1)
def cBrs (rows : List (List Bool)) : CV := .arr (rows.map fun r => [cBr r])
theorem brows_all (l : List (List Bool)) : AllLen (l.map fun r => [cBr r]) 1 := by intro x hx; obtain ⟨y, _, rfl⟩ := List.mem_map.1 hx; rfl
theorem brows_Clone {rows : List (List Bool)} {H : Hp} (h0 : rows ≠ []) (hl : rows.length ≤ 100000) : TV.S 56 [.one (.c (cBrs rows))] H = some (.one (.sl (H.length + 1) 0 rows.length rows.length), H ++ [.clo [] false, .clo (rows.map fun r => [cBr r]) false]) := by
  refine run56 (by simp) (by simp) ?_
  have ha := vappend_eq (P := Tryd.prog) (H := H ++ [.clo [] false, .clo [] false]) (t := 48) (tx := 48) (id := H.length + 1) (n := 0) (l := []) (xs := rows.map fun r => [cBr r]) (x := .one (.c (cBrs rows))) es48 es48 el53
    (by simp) rfl rfl (by simp) (brows_all rows) (by simp; omega) (by simp; omega)
  obtain ⟨x, t, rfl⟩ : ∃ h t, rows = h :: t := by cases rows with | nil => exact absurd rfl h0 | cons h t => exact ⟨h, t, rfl⟩
  simp [cBrs] at ha
  simp [Tryd.f56, cBrs, vmove, isNil, bin_sln es48, bs_zero es48 el53, ha]
theorem mapO_all {α β : Type} {f : α → Option β} : ∀ {l : List α} {m : List β}, l.length = m.length → (∀ (j : Nat) x y, l[j]? = some x → m[j]? = some y → f x = some y) → mapO f l = some m
  | [], [], _, _ => rfl
  | [], _ :: _, h, _ => by simp at h
  | _ :: _, [], h, _ => by simp at h
  | x :: l, y :: m, h, g => by
    have h1 := g 0 x y rfl rfl
    have h2 := mapO_all (l := l) (m := m) (by simpa using h) fun j u v hu hv => g (j + 1) u v (by simpa using hu) (by simpa using hv)
    simp [mapO, h1, h2]
/-- Rows that lie elsewhere, read together. -/
theorem fz_rows {h : Hp} {id n : Nat} {l : List (List Cell)} {out : List CV} (hid : h[id]? = some (.opn l false)) (hl : l.length = n) (ho : out.length = n) (hc : ∀ (j : Nat) x y, l[j]? = some x → out[j]? = some y → ∃ c, x = [c] ∧ fzc 4 h c = some y) : fzc 5 h (.sl id 0 n n) = some (.arr (out.map fun c => [c])) := by
  have hm : mapO (mapO (fzc 4 h)) l = some (out.map fun c => [c]) := by
    refine mapO_all (by simp [hl, ho]) fun j x y hx hy => ?_
    obtain ⟨z, hz, rfl⟩ := Option.map_eq_some_iff.1 (by rw [← List.getElem?_map]; exact hy)
    obtain ⟨c, rfl, hcc⟩ := hc j x z hx hz
    simp only [mapO, hcc]
  unfold fzc
  simp only [hid, hl, if_true, List.drop_zero]
  rw [List.take_of_length_le (by omega), hm]
  rfl
end Go.Proofs.YtonkhpeahbjmmaaDoorF
end

section
/- Bitmaps: right ones, a thing's place, a thing more. -/
set_option maxRecDepth 8192
set_option maxHeartbeats 1000000
namespace Go.Proofs.YtonkhpeahbjmmaaDoorF
open Go Go.Proofs.Vm

structure BM where
  s : Int
  rows : List (List Bool)
def cBM (m : BM) : List CV := [.v (.int .u64 m.s), cBrs m.rows]
def brW (rows : List (List Bool)) (r : List Bool) : Bool := decide (r.length < 1) || decide (256 < r.length) || decide (r.length ≠ (rows.headD []).length)
def mOk (m : BM) : Bool := decide (1 ≤ m.rows.length) && decide (m.rows.length ≤ 16) && !m.rows.any (brW m.rows)
theorem mOk_facts {m : BM} (h : mOk m = true) : 1 ≤ m.rows.length ∧ m.rows.length ≤ 16 ∧ ∀ r ∈ m.rows, 1 ≤ r.length ∧ r.length ≤ 256 ∧ r.length = (m.rows.headD []).length := by
  unfold mOk at h
  simp only [Bool.and_eq_true, decide_eq_true_eq, Bool.not_eq_true'] at h
  obtain ⟨⟨h1, h2⟩, h3⟩ := h
  refine ⟨h1, h2, fun r hr => ?_⟩
  have := List.any_eq_false.1 h3 r hr
  unfold brW at this
  simp only [Bool.or_eq_true, decide_eq_true_eq, not_or] at this
  omega
theorem mOk_of {m : BM} (h1 : 1 ≤ m.rows.length) (h2 : m.rows.length ≤ 16) (h3 : ∀ r ∈ m.rows, 1 ≤ r.length ∧ r.length ≤ 256 ∧ r.length = (m.rows.headD []).length) : mOk m = true := by
  unfold mOk
  simp only [Bool.and_eq_true, decide_eq_true_eq, Bool.not_eq_true']
  refine ⟨⟨h1, h2⟩, List.any_eq_false.2 fun r hr => ?_⟩
  have := h3 r hr
  unfold brW
  simp only [Bool.or_eq_true, decide_eq_true_eq, not_or]
  omega
/-- Lengths that any memory has. -/
def LensM (m : BM) : Prop := m.rows.length < 4611686018427387904 ∧ ∀ x ∈ m.rows, x.length < 4611686018427387904

theorem index_brows {g : CV} {caps : List CV} {f : FuncId} (hg : g = .fn f caps) {p : List Bool → Bool} {r : List (List Bool)} (hp : ∀ n ∈ r, TV.pu f (.one (cBr n) :: caps.map .one) = some (cB (p n))) (hl : r.length < 9223372036854775807) :
    TV.pu 88 [.one (cBrs r), .one g] = some (cI .i64 (idxF p r)) := by
  subst hg
  refine run88 (by simp) ?_
  simp [Tryd.f88, cBrs]
  obtain ⟨I, hI⟩ : ∃ I : Nat → St → Prop, ∀ k s', I k s' ↔ (∃ e j L, s' = ⟨e, L⟩ ∧ e 0 = .one (.c (cBrs r)) ∧ e 1 = .one (.c (.fn f caps)) ∧ e 7 = vI .i64 r.length ∧ e 8 = vI .i64 (j : Nat) ∧ (j + k = r.length) ∧ (∀ q, q < j → ∀ x, r[q]? = some x → p x = false)) := ⟨_, fun _ _ => Iff.rfl⟩
  refine wpL_ind I ?_ r.length _ ((hI _ _).2 ⟨_, 0, _, (by first | rfl | (simp [cBrs]; done) | (simp [cBrs]; rfl) | (simp [cBrs]; and_intros <;> rfl)), by simp [cBrs], by simp, by simp, by simp, by omega, by simp⟩)
  intro k stI hstI
  obtain ⟨e, j, L, rfl, e0, e1, e7, e8, hk, hno⟩ := (hI _ _).1 hstI
  by_cases c : j < r.length
  · have hx : r[j]? = some r[j] := List.getElem?_eq_getElem c
    have hpj := hp r[j] (List.getElem_mem c)
    have w_j : IntKind.i64.wrap ((j : Int) + 1) = ((j + 1 : Nat) : Int) := by rw [w64_id (by omega) (by omega)]; omega
    simp only [cBr] at hpj
    simp [e0, e1, e7, e8, cBrs, cBr, c, hpj, w_j]
    by_cases hj : p r[j] = true
    · simp [hj, idxF_at p r j c hj hno]
    · simp [hj]
      refine ⟨k - 1, by omega, (hI _ _).2 ⟨_, j + 1, _, (by first | rfl | (simp [cBrs, cBr]; done) | (simp [cBrs, cBr]; rfl) | (simp [cBrs, cBr]; and_intros <;> rfl)), by simp [e0, cBrs, cBr], by simp [e1], by simp [e7], by simp, by omega, ?_⟩⟩
      intro q hq x hx2
      by_cases hqj : q = j
      · subst hqj
        rw [hx] at hx2
        cases hx2
        simpa using hj
      · exact hno q (by omega) x hx2
  · have c' : ¬ (j : Int) < (r.length : Int) := by omega
    simp [e0, e1, e7, e8, c']
    rw [idxF_none p r fun q hq => hno q (by omega)]
theorem contains_brows {g : CV} {caps : List CV} {f : FuncId} (hg : g = .fn f caps) {p : List Bool → Bool} {r : List (List Bool)} (hp : ∀ n ∈ r, TV.pu f (.one (cBr n) :: caps.map .one) = some (cB (p n))) (hl : r.length < 9223372036854775807) :
    TV.pu 65 [.one (cBrs r), .one g] = some (cB (r.any p)) := by
  refine run65 (by simp) ?_
  have h := index_brows hg hp hl
  subst hg
  simp [Tryd.f65, h, idxF_ge, cBrs] at h ⊢
theorem bm_row {m : BM} {r : List Bool} (hr : m.rows ≠ []) : TV.pu 66 [.one (cBr r), .one (.cptr (cBM m))] = some (cB (brW m.rows r)) := by
  refine run66 (by simp) ?_
  obtain ⟨s, rows⟩ := m
  obtain ⟨h, t, rfl⟩ : ∃ h t, rows = h :: t := by cases rows with | nil => exact absurd rfl hr | cons h t => exact ⟨h, t, rfl⟩
  have hB : brW (h :: t) r = (decide (r.length < 1) || decide (256 < r.length) || decide (r.length ≠ h.length)) := rfl
  rw [hB]
  by_cases h1 : (r.length : Int) < 1
  · have g1 : r.length < 1 := by omega
    rw [decide_eq_true g1, Bool.true_or, Bool.true_or]
    simp -implicitDefEqProofs [Tryd.f66, cBM, cBrs, cBr, h1]
  · have g1 : ¬ r.length < 1 := by omega
    rw [decide_eq_false g1, Bool.false_or]
    by_cases h2 : 256 < (r.length : Int)
    · have g2 : 256 < r.length := by omega
      rw [decide_eq_true g2, Bool.true_or]
      simp -implicitDefEqProofs [Tryd.f66, cBM, cBrs, cBr, h1, h2]
    · have g2 : ¬ 256 < r.length := by omega
      rw [decide_eq_false g2, Bool.false_or]
      by_cases h3 : (r.length : Int) = h.length
      · have g3 : ¬ r.length ≠ h.length := by omega
        rw [decide_eq_false g3]
        have h3' : ((r.length : Int) != (h.length : Int)) = false := by simp [h3]
        simp -implicitDefEqProofs [Tryd.f66, cBM, cBrs, cBr, h1, h2, h3']
      · have g3 : r.length ≠ h.length := by omega
        rw [decide_eq_true g3]
        have h3' : ((r.length : Int) != (h.length : Int)) = true := by simp; omega
        simp -implicitDefEqProofs [Tryd.f66, cBM, cBrs, cBr, h1, h2, h3']
theorem bm_Right {m : BM} (hl : m.rows.length < 9223372036854775807) : TV.pu 40 [.agg (cBM m)] = some (cB (mOk m)) := by
  refine run40 (by simp) ?_
  have hc : m.rows ≠ [] → TV.pu 65 [.one (cBrs m.rows), .one (.fn 66 [.cptr (cBM m)])] = some (cB (m.rows.any (brW m.rows))) := fun hr => contains_brows rfl (fun n _ => bm_row hr) hl
  unfold mOk
  by_cases c1 : 1 ≤ m.rows.length
  rotate_left
  · have c1' : ¬ 1 ≤ (m.rows.length : Int) := by omega
    simp -implicitDefEqProofs [Tryd.f40, cBM, cBrs, cBr, c1, c1']
  have c1' : 1 ≤ (m.rows.length : Int) := by omega
  have hr : m.rows ≠ [] := by intro h; rw [h] at c1; simp at c1
  have hc := hc hr
  by_cases c2 : m.rows.length ≤ 16
  rotate_left
  · have c2' : ¬ (m.rows.length : Int) ≤ 16 := by omega
    simp -implicitDefEqProofs [Tryd.f40, cBM, cBrs, cBr, c1, c1', c2, c2']
  have c2' : (m.rows.length : Int) ≤ 16 := by omega
  simp only [cBM, cBrs, cBr] at hc
  simp -implicitDefEqProofs [Tryd.f40, cBM, cBrs, cBr, c1, c1', c2, c2', hc]

/-- A thing's row and bit. -/
def mrow (m : BM) (t : ByteArray) : Int := hlev (hrow m.s 0) t ((m.rows.length : Int) - 1)
def mbit (m : BM) (t : ByteArray) : Int := hcell (hrow m.s 1) t ((m.rows.headD []).length : Int)
theorem mrow_range {m : BM} (h : mOk m = true) (t : ByteArray) : 0 ≤ mrow m t ∧ mrow m t < m.rows.length := by
  obtain ⟨h1, h2, _⟩ := mOk_facts h
  have := hlev_range (hrow m.s 0) t ((m.rows.length : Int) - 1)
  unfold mrow; omega
theorem mbit_range {m : BM} (h : mOk m = true) (t : ByteArray) : 0 ≤ mbit m t ∧ mbit m t < (m.rows.headD []).length := by
  obtain ⟨h1, h2, h3⟩ := mOk_facts h
  have : 1 ≤ (m.rows.headD []).length := by
    cases hm : m.rows with
    | nil => rw [hm] at h1; simp at h1
    | cons x t => have := h3 x (by rw [hm]; exact List.mem_cons_self); exact this.1
  have := hcell_range (hrow m.s 1) t ((m.rows.headD []).length : Int) (by omega)
  exact this
theorem bm_Place {m : BM} {t : ByteArray} (h0 : 0 ≤ m.s) (h1 : m.s < 18446744073709551616) (hok : mOk m = true) (ht : t.size ≤ 140737488351232) : TV.pu 55 [.agg (cBM m), cS t] = some (.tup [(false, [.v (.int .i64 (mrow m t))]), (false, [.v (.int .i64 (mbit m t))])]) := by
  refine run55 (by simp) ?_
  obtain ⟨q1, q2, q3⟩ := mOk_facts hok
  have hR := bm_Right (m := m) (by omega)
  have r0 := hrow_range m.s 0
  have r1 := hrow_range m.s 1
  have hw0 := hash_Row (s := m.s) (i := 0) h0 h1 (by omega) (by omega)
  have hw1 := hash_Row (s := m.s) (i := 1) h0 h1 (by omega) (by omega)
  have hL := hash_Level (seed := hrow m.s 0) (s := t) (most := (m.rows.length : Int) - 1) r0.1 (by omega) ht (by omega) (by omega)
  have hrr := mrow_range hok t
  obtain ⟨rw', hrw⟩ : ∃ rw', mrow m t = rw' := ⟨_, rfl⟩
  unfold mrow at hrw
  rw [hrw] at hL
  rw [show mrow m t = rw' from hrw] at hrr ⊢
  obtain ⟨k, rfl⟩ := Int.eq_ofNat_of_zero_le hrr.1
  have hk : k < m.rows.length := by omega
  have hlen := (q3 _ (List.getElem_mem hk)).2.2
  have hb := (q3 _ (List.getElem_mem hk)).2.1
  have hC := hash_Cell (seed := hrow m.s 1) (s := t) (n := (m.rows[k].length : Int)) r1.1 (by omega) ht (by omega)
  have hbit : mbit m t = hcell (hrow m.s 1) t (m.rows[k].length : Int) := by unfold mbit; rw [hlen]
  rw [hbit]
  have wm : IntKind.i64.wrap ((m.rows.length : Int) - 1) = (m.rows.length : Int) - 1 := w64_id (by omega) (by omega)
  rw [hok] at hR
  simp only [cBM, cBrs, cBr] at hR
  simp -implicitDefEqProofs [Tryd.f55, cBM, cBrs, cBr, hR, hw0, hw1, wm, hL, hk, hC]
theorem bm_Place_no {m : BM} {t : ByteArray} (hok : mOk m = false) (hl : m.rows.length < 9223372036854775807) : TV.pu 55 [.agg (cBM m), cS t] = some (.tup [(false, [.v (.int .i64 0)]), (false, [.v (.int .i64 0)])]) := by
  refine run55 (by simp) ?_
  have hR := bm_Right (m := m) hl
  rw [hok] at hR
  simp only [cBM, cBrs, cBr] at hR
  simp -implicitDefEqProofs [Tryd.f55, cBM, cBrs, cBr, hR]
end Go.Proofs.YtonkhpeahbjmmaaDoorF
end

section
/- Bitmaps: a thing more. -/
set_option maxRecDepth 8192
set_option maxHeartbeats 1000000
namespace Go.Proofs.YtonkhpeahbjmmaaDoorF
open Go Go.Proofs.Vm

def addRows (rows : List (List Bool)) (i k : Nat) : List (List Bool) := rows.modify i fun r => r.set k true
def addM (m : BM) (t : ByteArray) : BM := { m with rows := addRows m.rows (mrow m t).toNat (mbit m t).toNat }
theorem bm_Add_no {m : BM} {t : ByteArray} (hok : mOk m = false) (hl : m.rows.length < 9223372036854775807) : TV.pu 29 [.agg (cBM m), cS t] = some (.agg (cBM m)) := by
  refine run29 (by simp) ?_
  have hR := bm_Right (m := m) hl
  rw [hok] at hR
  simp only [cBM, cBrs, cBr] at hR
  simp -implicitDefEqProofs [Tryd.f29, cBM, cBrs, cBr, hR, vstore, cellsOf?, Ent.wrO, wr]
  try simp [qa]
theorem bm_Add {m : BM} {t : ByteArray} (h0 : 0 ≤ m.s) (h1 : m.s < 18446744073709551616) (hok : mOk m = true) (ht : t.size ≤ 140737488351232) : TV.pu 29 [.agg (cBM m), cS t] = some (.agg (cBM (addM m t))) := by
  refine run29 (by simp) ?_
  obtain ⟨q1, q2, q3⟩ := mOk_facts hok
  have hR := bm_Right (m := m) (by omega)
  rw [hok] at hR
  have hP := bm_Place (t := t) h0 h1 hok ht
  have hrr := mrow_range hok t
  have hbr := mbit_range hok t
  unfold addM
  obtain ⟨i, hi⟩ : ∃ i, mrow m t = i := ⟨_, rfl⟩
  obtain ⟨k, hk⟩ : ∃ k, mbit m t = k := ⟨_, rfl⟩
  rw [hi] at hP hrr ⊢
  rw [hk] at hP hbr ⊢
  obtain ⟨i, rfl⟩ := Int.eq_ofNat_of_zero_le hrr.1
  obtain ⟨k, rfl⟩ := Int.eq_ofNat_of_zero_le hbr.1
  obtain ⟨s, rows⟩ := m
  dsimp only at *
  have hir : i < rows.length := by omega
  obtain ⟨l1, l2, l3⟩ := q3 _ (List.getElem_mem hir)
  have hkr : k < rows[i].length := by omega
  have hr0 : rows ≠ [] := by intro h; rw [h] at q1; simp at q1
  have hri : rows[i] ≠ [] := by intro h; rw [h] at l1; simp at l1
  have hC := fun H => brows_Clone (rows := rows) (H := H) hr0 (by omega)
  have hCb := fun H => bool_Clone (r := rows[i]) (H := H) hri (by omega)
  simp only [cBM, cBrs, cBr] at hR hP hC
  have hcb : (cB1 rows[i][k]).length = 1 := rfl
  simp -implicitDefEqProofs [-fzc, fz_v, fz_arr, Tryd.f29, cBM, cBrs, cBr, hR, hP, hC, hCb, hir, hkr, hcb, vmove, isNil, vstore, cellsOf?, Ent.wrO, wr, hasRef]
  have hfz : ∀ H : Hp, H[4]? = some (.opn ((rows.map ((fun e => List.map Cell.c e) ∘ fun r => [CV.arr (r.map cB1)])).modify i fun e => e.set 0 (.sl 6 0 rows[i].length rows[i].length)) false) → H[6]? = some (.clo (Ent.wrC (rows[i].map cB1) k 0 [.v (.bool true)]) false) → fzc 5 H (.sl 4 0 rows.length rows.length) = some (cBrs (addRows rows i k)) := fun H h4 h6 => by
    refine (fz_rows (out := (addRows rows i k).map cBr) h4 (by simp) (by simp [addRows]) fun j x y hx hy => ?_).trans (by simp [cBrs])
    rw [List.getElem?_modify, List.getElem?_map] at hx
    unfold addRows at hy
    rw [List.getElem?_map, List.getElem?_modify] at hy
    cases hj : rows[j]? with
    | none => rw [hj] at hx; simp at hx
    | some r =>
      rw [hj] at hx hy
      by_cases hij : i = j
      · subst hij
        rw [List.getElem?_eq_getElem hir] at hj
        cases hj
        simp at hx hy
        subst hx hy
        refine ⟨_, rfl, ?_⟩
        have hl : (Ent.wrC (rows[i].map cB1) k 0 [.v (.bool true)]).length = rows[i].length := by simp [Ent.wrC]
        unfold fzc
        simp only [h6, hl, if_true, List.drop_zero]
        rw [List.take_of_length_le (by omega), wr_bit]
        rfl
      · simp [hij] at hx hy
        subst hx hy
        exact ⟨_, rfl, rfl⟩
  simp [-fzc, fz_v, qa, hfz, cBrs, cBr]
end Go.Proofs.YtonkhpeahbjmmaaDoorF
end

section
/- Bitmaps: the estimate. -/
set_option maxRecDepth 8192
set_option maxHeartbeats 1000000
namespace Go.Proofs.YtonkhpeahbjmmaaDoorF
open Go Go.Proofs.Vm

/-- What so many bits of a row count, the last ones first. -/
def estS (b : Nat) : Nat → Nat → Int
  | _, 0 => 0
  | lo, k + 1 => ((b * 65536 / (lo + 1) : Nat) : Int) + estS b (lo + 1) k
def cntT (r : List Bool) : Nat := r.countP id
def estR (r : List Bool) : Int := estS r.length (r.length - cntT r) (cntT r)
def estM (rows : List (List Bool)) : Int := (rows.map estR).sum
theorem cntT_le (r : List Bool) : cntT r ≤ r.length := List.countP_le_length
theorem estS_bound {b : Nat} (hb : b ≤ 256) : ∀ (k lo : Nat), 0 ≤ estS b lo k ∧ estS b lo k ≤ (k : Int) * 16777216
  | 0, lo => by simp [estS]
  | k + 1, lo => by
    have h := estS_bound hb k (lo + 1)
    have h1 : b * 65536 / (lo + 1) ≤ 16777216 := Nat.le_trans (Nat.div_le_self _ _) (by omega)
    unfold estS
    obtain ⟨v, hv⟩ : ∃ v, b * 65536 / (lo + 1) = v := ⟨_, rfl⟩
    rw [hv] at h1 ⊢
    omega
theorem estR_bound {r : List Bool} (hb : r.length ≤ 256) : 0 ≤ estR r ∧ estR r ≤ 4294967296 := by
  have h := estS_bound hb (cntT r) (r.length - cntT r)
  have := cntT_le r
  unfold estR
  omega
theorem estM_bound : ∀ {rows : List (List Bool)}, (∀ r ∈ rows, r.length ≤ 256) → 0 ≤ estM rows ∧ estM rows ≤ (rows.length : Int) * 4294967296
  | [], _ => by simp [estM]
  | r :: rows, h => by
    have h1 := estR_bound (h r List.mem_cons_self)
    have h2 := estM_bound (rows := rows) fun x hx => h x (List.mem_cons_of_mem _ hx)
    unfold estM at h2 ⊢
    rw [List.map_cons, List.sum_cons, List.length_cons]
    omega
theorem estM_take {rows : List (List Bool)} {i : Nat} (h : i < rows.length) : estM (rows.take (i + 1)) = estM (rows.take i) + estR rows[i] := by
  unfold estM
  rw [List.take_add_one, List.getElem?_eq_getElem h, Option.toList_some, List.map_append, List.sum_append]
  simp
theorem estM_take_bound {rows : List (List Bool)} (h : ∀ r ∈ rows, r.length ≤ 256) (hn : rows.length ≤ 1000) (i : Nat) : 0 ≤ estM (rows.take i) ∧ estM (rows.take i) ≤ 4294967296000 := by
  have := estM_bound (rows := rows.take i) fun r hr => h r (List.mem_of_mem_take hr)
  rw [List.length_take] at this
  omega
theorem cntT_take {r : List Bool} {i : Nat} (h : i < r.length) : cntT (r.take (i + 1)) = cntT (r.take i) + if r[i] then 1 else 0 := by
  unfold cntT
  rw [List.take_add_one, List.getElem?_eq_getElem h, Option.toList_some, List.countP_append]
  simp [List.countP_cons]
theorem bm_Estimate {m : BM} (hok : mOk m = true) : TV.pu 31 [.agg (cBM m)] = some (cI .i64 (estM m.rows)) := by
  refine run31 (by simp) ?_
  obtain ⟨q1, q2, q3⟩ := mOk_facts hok
  have hR := bm_Right (m := m) (by omega)
  rw [hok] at hR
  obtain ⟨s, rows⟩ := m
  dsimp only at *
  have hq : ∀ r ∈ rows, r.length ≤ 256 := fun r hr => (q3 r hr).2.1
  have hB := estM_take_bound hq (by omega)
  simp only [cBM, cBrs, cBr] at hR
  simp -implicitDefEqProofs [Tryd.f31, cBM, cBrs, cBr, hR]
  obtain ⟨I, hI⟩ : ∃ I : Nat → St → Prop, ∀ k s', I k s' ↔ (∃ e i L, s' = ⟨e, L⟩ ∧ e 3 = vI .i64 (estM (rows.take i)) ∧ e 15 = .one (.c (cBrs rows)) ∧ e 16 = vI .i64 rows.length ∧ e 17 = vI .i64 (i : Nat) ∧ (i + k = rows.length)) := ⟨_, fun _ _ => Iff.rfl⟩
  refine wpL_ind I ?_ rows.length _ ((hI _ _).2 ⟨_, 0, _, (by first | rfl | (simp [cBrs, cBr, estM]; done) | (simp [cBrs, cBr, estM]; rfl) | (simp [cBrs, cBr, estM]; and_intros <;> rfl)), by simp [estM], by simp [cBrs, cBr], by simp, by simp, by omega⟩)
  intro k stI hstI
  obtain ⟨e, i, L, rfl, e3, e15, e16, e17, hk⟩ := (hI _ _).1 hstI
  by_cases c : i < rows.length
  rotate_left
  · have hil : rows.take i = rows := List.take_of_length_le (by omega)
    rw [hil] at e3
    simp -implicitDefEqProofs [e3, e16, e17, c]
  have w_i : IntKind.i64.wrap ((i : Int) + 1) = ((i + 1 : Nat) : Int) := by rw [w64_id (by omega) (by omega)]; omega
  have hlr := hq _ (List.getElem_mem c)
  have hl1 := (q3 _ (List.getElem_mem c)).1
  have hBi := hB (i + 1)
  have hBi0 := hB i
  rw [estM_take c] at hBi
  have hcl := cntT_le rows[i]
  simp -implicitDefEqProofs [e15, e16, e17, c, cBrs, cBr]
  obtain ⟨J, hJ⟩ : ∃ J : Nat → St → Prop, ∀ k' s', J k' s' ↔ (∃ e p L, s' = ⟨e, L⟩ ∧ e 3 = vI .i64 (estM (rows.take i)) ∧ e 15 = .one (.c (cBrs rows)) ∧ e 16 = vI .i64 rows.length ∧ e 17 = vI .i64 (i : Nat) ∧ e 6 = vI .i64 rows[i].length ∧ e 7 = vI .i64 ((rows[i].length : Int) - (cntT (rows[i].take p) : Nat)) ∧ e 25 = .one (.c (cBr rows[i])) ∧ e 26 = vI .i64 rows[i].length ∧ e 27 = vI .i64 (p : Nat) ∧ (p + k' = rows[i].length)) := ⟨_, fun _ _ => Iff.rfl⟩
  refine wpL_ind J ?_ rows[i].length _ ((hJ _ _).2 ⟨_, 0, _, (by first | rfl | (simp [e3, e15, e16, e17, cBrs, cBr, cntT]; done) | (simp [e3, e15, e16, e17, cBrs, cBr, cntT]; rfl) | (simp [e3, e15, e16, e17, cBrs, cBr, cntT]; and_intros <;> rfl)), by simp [e3], by simp [e15, cBrs, cBr], by simp [e16], by simp [e17], by simp, by simp [cntT], by simp [cBr], by simp, by simp, by omega⟩)
  clear e3 e15 e16 e17
  intro k' stJ hstJ
  obtain ⟨e, p, L, rfl, e3, e15, e16, e17, e6, e7, e25, e26, e27, hk'⟩ := (hJ _ _).1 hstJ
  by_cases d : p < rows[i].length
  · have w_p : IntKind.i64.wrap ((p : Int) + 1) = ((p + 1 : Nat) : Int) := by rw [w64_id (by omega) (by omega)]; omega
    have hct := cntT_take d
    have hcp : cntT (rows[i].take p) ≤ (rows[i].take p).length := cntT_le _
    rw [List.length_take] at hcp
    cases hb : rows[i][p] with
    | true =>
      rw [hb, if_pos rfl] at hct
      have wm : IntKind.i64.wrap ((rows[i].length : Int) - (cntT (rows[i].take p) : Nat) - 1) = (rows[i].length : Int) - (cntT (rows[i].take (p + 1)) : Nat) := by rw [w64_id (by omega) (by omega)]; omega
      simp -implicitDefEqProofs [-List.map_take, e7, e25, e26, e27, d, hb, cB1, cBr, w_p, wm]
      exact ⟨k' - 1, by omega, (hJ _ _).2 ⟨_, p + 1, _, (by first | rfl | (simp [cBrs, cBr]; done) | (simp [cBrs, cBr]; rfl) | (simp [cBrs, cBr]; and_intros <;> rfl)), by simp [e3], by simp [e15, cBrs, cBr], by simp [e16], by simp [e17], by simp [e6], by simp, by simp [e25, cBr], by simp [e26], by simp, by omega⟩⟩
    | false =>
      rw [hb, if_neg (by decide)] at hct
      simp -implicitDefEqProofs [-List.map_take, e25, e26, e27, d, hb, cB1, cBr, w_p]
      exact ⟨k' - 1, by omega, (hJ _ _).2 ⟨_, p + 1, _, (by first | rfl | (simp [cBrs, cBr, hct]; done) | (simp [cBrs, cBr, hct]; rfl) | (simp [cBrs, cBr, hct]; and_intros <;> rfl)), by simp [e3], by simp [e15, cBrs, cBr], by simp [e16], by simp [e17], by simp [e6], by simp [e7, hct], by simp [e25, cBr], by simp [e26], by simp, by omega⟩⟩
  have hpl : rows[i].take p = rows[i] := List.take_of_length_le (by omega)
  rw [hpl] at e7
  have hd : ¬ (p : Int) < rows[i].length := by omega
  obtain ⟨lo, hlo⟩ : ∃ lo, rows[i].length - cntT rows[i] = lo := ⟨_, rfl⟩
  have hlo' : (rows[i].length : Int) - (cntT rows[i] : Nat) = (lo : Int) := by omega
  rw [hlo'] at e7
  have w_lo : IntKind.i64.wrap ((lo : Int) + 1) = ((lo + 1 : Nat) : Int) := by rw [w64_id (by omega) (by omega)]; omega
  simp -implicitDefEqProofs [e7, e26, e27, d, w_lo]
  have hR : estR rows[i] = estS rows[i].length lo (cntT rows[i]) := by unfold estR; rw [hlo]
  obtain ⟨tot, htot⟩ : ∃ tot, estM (rows.take i) + estR rows[i] = tot := ⟨_, rfl⟩
  rw [← estM_take c] at htot
  have htb : tot ≤ 4294967296000 := by rw [← htot]; exact (hB (i + 1)).2
  obtain ⟨G, hG⟩ : ∃ G : Nat → St → Prop, ∀ k' s', G k' s' ↔ (∃ e q acc L, s' = ⟨e, L⟩ ∧ e 3 = vI .i64 (acc : Int) ∧ e 15 = .one (.c (cBrs rows)) ∧ e 16 = vI .i64 rows.length ∧ e 17 = vI .i64 (i : Nat) ∧ e 6 = vI .i64 rows[i].length ∧ e 10 = vI .i64 (((q : Nat) : Int) + 1) ∧ (q + k' = rows[i].length) ∧ (0 ≤ acc) ∧ (acc + estS rows[i].length q k' = tot)) := ⟨_, fun _ _ => Iff.rfl⟩
  refine wpL_ind G ?_ (cntT rows[i]) _ ((hG _ _).2 ⟨_, lo, estM (rows.take i), _, (by first | rfl | (simp [e3, e15, e16, e17, e6, w_lo, cBrs, cBr]; done) | (simp [e3, e15, e16, e17, e6, w_lo, cBrs, cBr]; rfl) | (simp [e3, e15, e16, e17, e6, w_lo, cBrs, cBr]; and_intros <;> rfl)), by simp [e3], by simp [e15, cBrs, cBr], by simp [e16], by simp [e17], by simp [e6], by simp, by omega, by omega, by rw [← hR, ← htot, estM_take c]⟩)
  clear e3 e15 e16 e17 e6 e7 e25 e26 e27
  intro k' stG hstG
  obtain ⟨e, q, acc, L, rfl, e3, e15, e16, e17, e6, e10, hq', ha0, hacc⟩ := (hG _ _).1 hstG
  by_cases g : q < rows[i].length
  rotate_left
  · have hk0 : k' = 0 := by omega
    subst hk0
    have : acc = tot := by rw [← hacc]; simp [estS]
    subst this
    have g' : ¬ (q : Int) + 1 ≤ rows[i].length := by omega
    have g'' : ¬ (q : Int) < rows[i].length := by omega
    simp -implicitDefEqProofs [e17, e6, e10, g', w_i]
    exact ⟨k - 1, by omega, (hI _ _).2 ⟨_, i + 1, _, (by first | rfl | (simp [htot, cBrs, cBr]; done) | (simp [htot, cBrs, cBr]; rfl) | (simp [htot, cBrs, cBr]; and_intros <;> rfl)), by simp [e3, htot], by simp [e15, cBrs, cBr], by simp [e16], by simp, by omega⟩⟩
  · obtain ⟨k'', rfl⟩ : ∃ k'', k' = k'' + 1 := ⟨k' - 1, by omega⟩
    have g' : (q : Int) + 1 ≤ rows[i].length := by omega
    have hsb := estS_bound hlr k'' (q + 1)
    rw [estS] at hacc
    have w1 : IntKind.i64.wrap ((rows[i].length : Int) * 65536) = (rows[i].length : Int) * 65536 := w64_id (by omega) (by omega)
    have hdv : ((rows[i].length : Int) * 65536).tdiv ((q : Int) + 1) = ((rows[i].length * 65536 / (q + 1) : Nat) : Int) := by
      rw [Int.tdiv_eq_ediv_of_nonneg (by omega)]
      rfl
    have hv0 : rows[i].length * 65536 / (q + 1) ≤ 16777216 := Nat.le_trans (Nat.div_le_self _ _) (by omega)
    obtain ⟨v, hv⟩ : ∃ v, rows[i].length * 65536 / (q + 1) = v := ⟨_, rfl⟩
    rw [hv] at hdv hacc hv0
    have w2 : IntKind.i64.wrap (v : Int) = (v : Int) := w64_id (by omega) (by omega)
    have w3 : IntKind.i64.wrap (acc + (v : Int)) = acc + (v : Int) := w64_id (by omega) (by omega)
    have w4 : IntKind.i64.wrap ((q : Int) + 1 + 1) = (q : Int) + 1 + 1 := w64_id (by omega) (by omega)
    have hne : (q : Int) + 1 ≠ 0 := by omega
    simp -implicitDefEqProofs [e3, e6, e10, g', w1, bin_quo hne, hdv, w2, w3, w4]
    exact ⟨k'', by omega, (hG _ _).2 ⟨_, q + 1, acc + (v : Int), _, (by first | rfl | (simp [hdv, w2, w3, cBrs, cBr]; done) | (simp [hdv, w2, w3, cBrs, cBr]; rfl) | (simp [hdv, w2, w3, cBrs, cBr]; and_intros <;> rfl)), by simp, by simp [e15, cBrs, cBr], by simp [e16], by simp [e17], by simp [e6], by simp, by omega, by omega, by omega⟩⟩
end Go.Proofs.YtonkhpeahbjmmaaDoorF
end

section
/- The document's bitmaps. -/
set_option maxRecDepth 8192
set_option maxHeartbeats 1000000
namespace Go.Proofs.YtonkhpeahbjmmaaDoorF
open Go Go.Proofs.Vm

theorem headD_get {α : Type} {l : List (List α)} (h : 0 < l.length) : l.headD [] = l[0] := by cases l with | nil => simp at h | cons x t => rfl
theorem mOk_row {m : BM} {i : Nat} (h : i < m.rows.length) (hw : brW m.rows m.rows[i] = true) : mOk m = false := by
  unfold mOk
  have : m.rows.any (brW m.rows) = true := List.any_eq_true.2 ⟨_, List.getElem_mem h, hw⟩
  rw [this]; simp
theorem r13_Right {m : BM} (hl : LensM m) : TV.pu 37 [.agg (cBM m)] = some (cB (mOk m)) := by
  refine run37 (by simp) ?_
  obtain ⟨s, rows⟩ := m
  obtain ⟨l1, l2⟩ := hl
  dsimp only at l1 l2
  obtain ⟨res, hres⟩ : ∃ res, mOk ⟨s, rows⟩ = res := ⟨_, rfl⟩
  have hbad : ∀ i (hi : i < rows.length), brW rows rows[i] = true → res = false := fun i hi hw => by rw [← hres]; exact mOk_row (m := ⟨s, rows⟩) hi hw
  rw [hres]
  simp -implicitDefEqProofs [Tryd.f37, cBM, cBrs, cBr]
  obtain ⟨I, hI⟩ : ∃ I : Nat → St → Prop, ∀ k s', I k s' ↔ (∃ e i L, s' = ⟨e, .opn [(cBM ⟨s, rows⟩).map .c] false :: L⟩ ∧ e 1 = .one (.ptr ⟨0, 0, 0, 1⟩) ∧ e 3 = vI .i64 (i : Nat) ∧ (i + k = rows.length) ∧ (∀ j (h : j < rows.length), j < i → brW rows rows[j] = false)) := ⟨_, fun _ _ => Iff.rfl⟩
  refine wpL_ind I ?_ rows.length _ ((hI _ _).2 ⟨_, 0, _, (by first | rfl | (simp [cBM, cBrs, cBr]; done) | (simp [cBM, cBrs, cBr]; rfl) | (simp [cBM, cBrs, cBr]; and_intros <;> rfl)), by simp, by simp, by simp, by omega⟩)
  intro k stI hstI
  obtain ⟨e, i, L, rfl, e1, e3, hk, hno⟩ := (hI _ _).1 hstI
  by_cases c : i < rows.length
  rotate_left
  · have hany : rows.any (brW rows) = false := List.any_eq_false.2 fun x hx => by
      obtain ⟨q, hq, rfl⟩ := List.getElem_of_mem hx
      rw [hno q hq (by omega)]; decide
    unfold mOk at hres
    dsimp only at hres
    rw [hany] at hres
    by_cases c1 : 1 ≤ rows.length
    rotate_left
    · have : res = false := by rw [← hres]; simp [c1]
      have hr0 : rows = [] := List.length_eq_zero_iff.1 (by omega)
      have c1' : ¬ 0 < (rows.length : Int) := by omega
      subst hr0
      simp -implicitDefEqProofs [e1, e3, cBM, cBrs, cBr, this]
    have c1' : 0 < (rows.length : Int) := by omega
    have c1n : 0 < rows.length := by omega
    by_cases c2 : rows.length ≤ 16
    · have : res = true := by rw [← hres]; simp [c1, c2]
      have c2' : (rows.length : Int) < 17 := by omega
      simp -implicitDefEqProofs [e1, e3, cBM, cBrs, cBr, c, c1n, c2', this]
    · have : res = false := by rw [← hres]; simp [c2]
      have c2' : ¬ (rows.length : Int) < 17 := by omega
      simp -implicitDefEqProofs [e1, e3, cBM, cBrs, cBr, c, c1n, c2', this]
  have w_i : IntKind.i64.wrap ((i : Int) + 1) = ((i + 1 : Nat) : Int) := by rw [w64_id (by omega) (by omega)]; omega
  have hh0 : 0 < rows.length := by omega
  have hhd : rows.headD [] = rows[0] := by cases rows with | nil => simp at hh0 | cons x t => rfl
  have hlr := l2 _ (List.getElem_mem c)
  have hbi := hbad i c
  have hrW : brW rows rows[i] = (decide (rows[i].length < 1) || decide (256 < rows[i].length) || decide (rows[i].length ≠ rows[0].length)) := by unfold brW; rw [hhd]
  by_cases d1 : 1 ≤ rows[i].length
  rotate_left
  · rw [hbi (by rw [hrW, decide_eq_true (show rows[i].length < 1 by omega)]; rfl)]
    have d1' : (rows[i].length : Int) = 0 := by omega
    simp -implicitDefEqProofs [e1, e3, cBM, cBrs, cBr, c, d1', vmove, isNil]
  have d1' : ¬ (rows[i].length : Int) = 0 := by omega
  have d1n : ¬ rows[i] = [] := by intro h; rw [h] at d1; simp at d1
  by_cases d2 : rows[i].length ≤ 256
  rotate_left
  · rw [hbi (by rw [hrW, decide_eq_true (show 256 < rows[i].length by omega)]; simp)]
    have d2' : 256 < (rows[i].length : Int) := by omega
    simp -implicitDefEqProofs [e1, e3, cBM, cBrs, cBr, c, d1n, d2', vmove, isNil]
  have d2' : ¬ 256 < (rows[i].length : Int) := by omega
  by_cases d3 : rows[i].length = rows[0].length
  rotate_left
  · rw [hbi (by rw [hrW]; simp [d3])]
    have d3' : ¬ (rows[i].length : Int) = rows[0].length := by omega
    simp -implicitDefEqProofs [e1, e3, cBM, cBrs, cBr, c, hh0, d1n, d2', d3', vmove, isNil]
  have d3' : ((rows[i].length : Int) != (rows[0].length : Int)) = false := by simp [d3]
  simp -implicitDefEqProofs [e1, e3, cBM, cBrs, cBr, c, hh0, d1n, d2', d3', w_i, vmove, isNil]
  refine ⟨k - 1, by omega, (hI _ _).2 ⟨_, i + 1, _, (by first | rfl | (simp [cBM, cBrs, cBr]; done) | (simp [cBM, cBrs, cBr]; rfl) | (simp [cBM, cBrs, cBr]; and_intros <;> rfl)), by simp [e1], by simp, by omega, fun q hq hq2 => ?_⟩⟩
  by_cases hqi : q = i
  · subst hqi
    rw [hrW, decide_eq_false (show ¬ rows[q].length < 1 by omega), decide_eq_false (show ¬ 256 < rows[q].length by omega), decide_eq_false (show ¬ rows[q].length ≠ rows[0].length by omega)]
    rfl
  · exact hno q hq (by omega)
theorem r13_Place {m : BM} {t : ByteArray} (h0 : 0 ≤ m.s) (h1 : m.s < 18446744073709551616) (hok : mOk m = true) (ht : t.size ≤ 1000) : TV.pu 72 [.agg (cBM m), cS t] = some (.tup [(false, [.v (.int .i64 (mrow m t))]), (false, [.v (.int .i64 (mbit m t))])]) := by
  refine run72 (by simp) ?_
  obtain ⟨q1, q2, q3⟩ := mOk_facts hok
  have r0 := hrow_range m.s 0
  have r1 := hrow_range m.s 1
  have hw0 := r2_Row (s := m.s) (i := 0) h0 h1 (by omega) (by omega)
  have hw1 := r2_Row (s := m.s) (i := 1) h0 h1 (by omega) (by omega)
  have hL := r2_Level (seed := hrow m.s 0) (s := t) (most := (m.rows.length : Int) - 1) r0.1 (by omega) ht (by omega) (by omega)
  have hk : 0 < m.rows.length := by omega
  have hhd : m.rows.headD [] = m.rows[0] := headD_get hk
  have hb := (q3 _ (List.getElem_mem hk)).2.1
  have hC := r2_Cell (seed := hrow m.s 1) (s := t) (n := (m.rows[0].length : Int)) r1.1 (by omega) ht (by omega)
  have hbit : mbit m t = hcell (hrow m.s 1) t (m.rows[0].length : Int) := by unfold mbit; rw [hhd]
  rw [hbit]
  have wm : IntKind.i64.wrap ((m.rows.length : Int) - 1) = (m.rows.length : Int) - 1 := w64_id (by omega) (by omega)
  unfold mrow
  simp -implicitDefEqProofs [Tryd.f72, cBM, cBrs, cBr, hw0, hw1, wm, hL, hk, hC]
theorem addRows_at {rows : List (List Bool)} {i k j : Nat} (h : j < rows.length) (h' : j < (addRows rows i k).length) : (addRows rows i k)[j] = if i = j then rows[j].set k true else rows[j] := by
  simp only [addRows, List.getElem_modify]
theorem addRows_len (rows : List (List Bool)) (i k : Nat) : (addRows rows i k).length = rows.length := by simp [addRows]
theorem r13_Add {m : BM} {t : ByteArray} (h0 : 0 ≤ m.s) (h1 : m.s < 18446744073709551616) (hok : mOk m = true) (ht : t.size ≤ 1000) : TV.pu 47 [.agg (cBM m), cS t] = some (.agg (cBM (addM m t))) := by
  refine run47 (by simp) ?_
  obtain ⟨q1, q2, q3⟩ := mOk_facts hok
  have hP := r13_Place (t := t) h0 h1 hok ht
  have hrr := mrow_range hok t
  have hbr := mbit_range hok t
  unfold addM
  obtain ⟨a, ha⟩ : ∃ a, mrow m t = a := ⟨_, rfl⟩
  obtain ⟨b, hb⟩ : ∃ b, mbit m t = b := ⟨_, rfl⟩
  rw [ha] at hP hrr ⊢
  rw [hb] at hP hbr ⊢
  obtain ⟨a, rfl⟩ := Int.eq_ofNat_of_zero_le hrr.1
  obtain ⟨b, rfl⟩ := Int.eq_ofNat_of_zero_le hbr.1
  obtain ⟨s, rows⟩ := m
  dsimp only at *
  obtain ⟨res, hres⟩ : ∃ res, addRows rows a b = res := ⟨_, rfl⟩
  simp only [Int.toNat_natCast]
  have hrl : res.length = rows.length := by rw [← hres, addRows_len]
  have hri : ∀ i (h : i < rows.length) (h' : i < res.length), res[i] = if a = i then rows[i].set b true else rows[i] := fun i h h' => by subst hres; exact addRows_at h h'
  rw [hres]
  clear hres
  simp only [cBM, cBrs, cBr] at hP
  simp -implicitDefEqProofs [Tryd.f47, cBM, cBrs, cBr, hP, vmove, isNil]
  obtain ⟨I, hI⟩ : ∃ I : Nat → St → Prop, ∀ k s', I k s' ↔ (∃ e i E2 L, s' = ⟨e, .opn [(cBM ⟨s, rows⟩).map .c] false :: .opn [[.c (.v (.int .u64 0)), .sl 2 0 0 0]] false :: E2 :: .clo ((res.take i).map fun r => [cBr r]) false :: L⟩ ∧ e 2 = .one (.ptr ⟨0, 0, 0, 1⟩) ∧ e 4 = .one (.ptr ⟨1, 0, 0, 1⟩) ∧ e 5 = vI .i64 a ∧ e 6 = vI .i64 b ∧ e 7 = .one (.sl 3 0 i i) ∧ e 8 = vI .i64 (i : Nat) ∧ (i + k = rows.length)) := ⟨_, fun _ _ => Iff.rfl⟩
  refine wpL_ind I ?_ rows.length _ ((hI _ _).2 ⟨_, 0, _, _, (by first | rfl | (simp [cBM, cBrs, cBr]; done) | (simp [cBM, cBrs, cBr]; rfl) | (simp [cBM, cBrs, cBr]; and_intros <;> rfl)), by simp, by simp, by simp, by simp, by simp, by simp, by omega⟩)
  intro k stI hstI
  obtain ⟨e, i, E2, L, rfl, e2, e4, e5, e6, e7, e8, hk⟩ := (hI _ _).1 hstI
  by_cases c : i < rows.length
  rotate_left
  · have hi : i = rows.length := by omega
    subst hi
    have hfm : (res.map fun r => [CV.arr (r.map cB1)]).take rows.length = res.map fun r => [CV.arr (r.map cB1)] := List.take_of_length_le (by simp [hrl])
    have htk : res.take rows.length = res := List.take_of_length_le (by omega)
    simp -implicitDefEqProofs [e2, e4, e7, e8, cBM, cBrs, cBr, htk, vmove, isNil, vstore, cellsOf?, Ent.wrO, wr]
    simp [qa, hrl, hfm]
  have w_i : IntKind.i64.wrap ((i : Int) + 1) = ((i + 1 : Nat) : Int) := by rw [w64_id (by omega) (by omega)]; omega
  have hi' : i < res.length := by omega
  have hro := hri i c hi'
  have hlen : res[i].length = rows[i].length := by rw [hro]; split <;> simp
  obtain ⟨a1, a2, a3⟩ := q3 _ (List.getElem_mem c)
  simp -implicitDefEqProofs [e2, e8, c, cBM, cBrs, cBr, vmove, isNil]
  obtain ⟨J, hJ⟩ : ∃ J : Nat → St → Prop, ∀ k' s', J k' s' ↔ (∃ e p E2 M, s' = ⟨e, .opn [(cBM ⟨s, rows⟩).map .c] false :: .opn [[.c (.v (.int .u64 0)), .sl 2 0 0 0]] false :: E2 :: .clo ((res.take i).map fun r => [cBr r]) false :: (L ++ .clo ((res[i].take p).map cB1) false :: M)⟩ ∧ e 2 = .one (.ptr ⟨0, 0, 0, 1⟩) ∧ e 4 = .one (.ptr ⟨1, 0, 0, 1⟩) ∧ e 5 = vI .i64 a ∧ e 6 = vI .i64 b ∧ e 7 = .one (.sl 3 0 i i) ∧ e 8 = vI .i64 (i : Nat) ∧ e 9 = .one (.sl (L.length + 1 + 1 + 1 + 1) 0 p p) ∧ e 10 = vI .i64 (p : Nat) ∧ (p + k' = rows[i].length)) := ⟨_, fun _ _ => Iff.rfl⟩
  refine wpL_ind J ?_ rows[i].length _ ((hJ _ _).2 ⟨_, 0, E2, [], (by first | rfl | (simp [cBM, cBrs, cBr]; done) | (simp [cBM, cBrs, cBr]; rfl) | (simp [e2, e4, e5, e6, e7, e8, cBM, cBrs, cBr]; and_intros <;> rfl)), by simp [e2], by simp [e4], by simp [e5], by simp [e6], by simp [e7], by simp [e8], by simp, by simp, by omega⟩)
  clear e2 e4 e5 e6 e7 e8
  intro k' stJ hstJ
  obtain ⟨e, p, E2, M, rfl, e2, e4, e5, e6, e7, e8, e9, e10, hk'⟩ := (hJ _ _).1 hstJ
  by_cases d : p < rows[i].length
  rotate_left
  · have hp2 : p = rows[i].length := by omega
    subst hp2
    have hfl : (res[i].map cB1).take rows[i].length = res[i].map cB1 := List.take_of_length_le (by simp; omega)
    have hfl2 : res[i].take rows[i].length = res[i] := List.take_of_length_le (by omega)
    have c1 : 24 * (i + 1) ≤ 140737488355328 := by omega
    have c2 : i + 1 ≤ 4611686018427387904 := by omega
    have hil : min i res.length = i := by omega
    have hal := brows_all (res.take i)
    have htk : ((res.take i).map fun r => [cBr r]) ++ [[cBr res[i]]] = (res.take (i + 1)).map fun r => [cBr r] := by rw [List.take_add_one, List.getElem?_eq_getElem hi', Option.toList_some, List.map_append]; rfl
    simp only [cBr] at hal htk
    simp -implicitDefEqProofs [-List.map_take, e2, e7, e8, e9, e10, c, w_i, cBM, cBrs, cBr, hfl, hfl2, hlen, vmove, isNil, cellsOf?, vappend_sp es48 es48 el53, vbuildSlice_eq es48 el53, fzParts, setAll, rchParts, rch, frzAll, Ent.frz, elemsOf, c1, c2, hil, hal, htk]
    exact ⟨k - 1, by omega, (hI _ _).2 ⟨_, i + 1, E2, _, (by first | rfl | (simp [cBM, cBrs, cBr]; done) | (simp [cBM, cBrs, cBr]; rfl) | (simp [cBM, cBrs, cBr]; and_intros <;> rfl)), by simp [e2], by simp [e4], by simp [e5], by simp [e6], by simp, by simp, by omega⟩⟩
  have w_p : IntKind.i64.wrap ((p : Int) + 1) = ((p + 1 : Nat) : Int) := by rw [w64_id (by omega) (by omega)]; omega
  have d' : p < res[i].length := by omega
  have hrp : res[i][p] = if a = i ∧ b = p then true else rows[i][p] := by
    simp only [hro]
    by_cases hai : a = i
    · simp only [hai, true_and, if_true, List.getElem_set]
    · simp only [hai, false_and, if_false]
  have c1 : p ≤ 140737488355327 := by omega
  have c2 : p + 1 ≤ 4611686018427387904 := by omega
  have hpl : min p res[i].length = p := by omega
  have hal := cB1_all (res[i].take p)
  have htk : (res[i].take p).map cB1 ++ [[CV.v (.bool res[i][p])]] = (res[i].take (p + 1)).map cB1 := by rw [List.take_add_one, List.getElem?_eq_getElem d', Option.toList_some, List.map_append]; rfl
  cases hb0 : rows[i][p] with
  | true =>
    have : res[i][p] = true := by rw [hrp, hb0]; split <;> rfl
    rw [this] at htk
    have hcb : cB1 rows[i][p] = [.v (.bool true)] := by rw [hb0]; rfl
    simp -implicitDefEqProofs [-List.map_take, e2, e8, e9, e10, c, d, w_p, cBM, cBrs, cBr, hcb, vmove, isNil, cellsOf?, vappend_sp es53 es53 el4, vbuildSlice_eq es53 el4, fzParts, setAll, rchParts, rch, elemsOf, c1, c2, hpl, hal, htk]
    exact ⟨k' - 1, by omega, (hJ _ _).2 ⟨_, p + 1, E2, _, (by first | rfl | (simp [cBM, cBrs, cBr]; done) | (simp [cBM, cBrs, cBr]; rfl) | (simp [cBM, cBrs, cBr]; and_intros <;> rfl)), by simp [e2], by simp [e4], by simp [e5], by simp [e6], by simp [e7], by simp [e8], by simp, by simp, by omega⟩⟩
  | false =>
    rw [hb0] at hrp
    have hcb : cB1 rows[i][p] = [.v (.bool false)] := by rw [hb0]; rfl
    by_cases g1 : (i : Int) = a
    rotate_left
    · rw [if_neg (by omega)] at hrp
      rw [hrp] at htk
      simp -implicitDefEqProofs [-List.map_take, e2, e5, e8, e9, e10, c, d, w_p, cBM, cBrs, cBr, hcb, vmove, isNil, cellsOf?, vappend_sp es53 es53 el4, vbuildSlice_eq es53 el4, fzParts, setAll, rchParts, rch, elemsOf, c1, c2, hpl, hal, htk, g1]
      exact ⟨k' - 1, by omega, (hJ _ _).2 ⟨_, p + 1, E2, _, (by first | rfl | (simp [cBM, cBrs, cBr]; done) | (simp [cBM, cBrs, cBr]; rfl) | (simp [cBM, cBrs, cBr]; and_intros <;> rfl)), by simp [e2], by simp [e4], by simp [e5], by simp [e6], by simp [e7], by simp [e8], by simp, by simp, by omega⟩⟩
    obtain rfl : i = a := by omega
    by_cases g2 : (p : Int) = b
    · obtain rfl : p = b := by omega
      rw [if_pos (by omega)] at hrp
      rw [hrp] at htk
      simp -implicitDefEqProofs [-List.map_take, e2, e5, e6, e8, e9, e10, c, d, w_p, cBM, cBrs, cBr, hcb, vmove, isNil, cellsOf?, vappend_sp es53 es53 el4, vbuildSlice_eq es53 el4, fzParts, setAll, rchParts, rch, elemsOf, c1, c2, hpl, hal, htk]
      exact ⟨k' - 1, by omega, (hJ _ _).2 ⟨_, p + 1, E2, _, (by first | rfl | (simp [cBM, cBrs, cBr]; done) | (simp [cBM, cBrs, cBr]; rfl) | (simp [cBM, cBrs, cBr]; and_intros <;> rfl)), by simp [e2], by simp [e4], by simp [e5], by simp [e6], by simp [e7], by simp [e8], by simp, by simp, by omega⟩⟩
    · have g3 : ((p : Int) == (b : Int)) = false := by rw [beq_eq_false_iff_ne]; omega
      rw [if_neg (by omega)] at hrp
      rw [hrp] at htk
      simp -implicitDefEqProofs [-List.map_take, e2, e5, e6, e8, e9, e10, c, d, w_p, cBM, cBrs, cBr, hcb, vmove, isNil, cellsOf?, vappend_sp es53 es53 el4, vbuildSlice_eq es53 el4, fzParts, setAll, rchParts, rch, elemsOf, c1, c2, hpl, hal, htk, g3]
      exact ⟨k' - 1, by omega, (hJ _ _).2 ⟨_, p + 1, E2, _, (by first | rfl | (simp [cBM, cBrs, cBr]; done) | (simp [cBM, cBrs, cBr]; rfl) | (simp [cBM, cBrs, cBr]; and_intros <;> rfl)), by simp [e2], by simp [e4], by simp [e5], by simp [e6], by simp [e7], by simp [e8], by simp, by simp, by omega⟩⟩
end Go.Proofs.YtonkhpeahbjmmaaDoorF
end

section
/- The document's bitmaps: the estimate, the same ones. -/
set_option maxRecDepth 8192
set_option maxHeartbeats 1000000
namespace Go.Proofs.YtonkhpeahbjmmaaDoorF
open Go Go.Proofs.Vm

theorem estS_front {b c : Nat} (h : c + 1 ≤ b) : estS b (b - (c + 1)) (c + 1) = ((b * 65536 / (b - c) : Nat) : Int) + estS b (b - c) c := by
  rw [estS, show b - (c + 1) + 1 = b - c by omega]
theorem r13_Estimate {m : BM} (hl : LensM m) (hok : mOk m = true) : TV.pu 39 [.agg (cBM m)] = some (cI .i64 (estM m.rows)) := by
  refine run39 (by simp) ?_
  obtain ⟨q1, q2, q3⟩ := mOk_facts hok
  obtain ⟨s, rows⟩ := m
  dsimp only at *
  have hq : ∀ r ∈ rows, r.length ≤ 256 := fun r hr => (q3 r hr).2.1
  have hB := estM_take_bound hq (by omega)
  simp -implicitDefEqProofs [Tryd.f39, cBM, cBrs, cBr]
  obtain ⟨I, hI⟩ : ∃ I : Nat → St → Prop, ∀ k s', I k s' ↔ (∃ e i L, s' = ⟨e, .opn [(cBM ⟨s, rows⟩).map .c] false :: L⟩ ∧ e 1 = .one (.ptr ⟨0, 0, 0, 1⟩) ∧ e 3 = vI .i64 (estM (rows.take i)) ∧ e 4 = vI .i64 (i : Nat) ∧ (i + k = rows.length)) := ⟨_, fun _ _ => Iff.rfl⟩
  refine wpL_ind I ?_ rows.length _ ((hI _ _).2 ⟨_, 0, _, (by first | rfl | (simp [cBM, cBrs, cBr, estM]; done) | (simp [cBM, cBrs, cBr, estM]; rfl) | (simp [cBM, cBrs, cBr, estM]; and_intros <;> rfl)), by simp, by simp [estM], by simp, by omega⟩)
  intro k stI hstI
  obtain ⟨e, i, L, rfl, e1, e3, e4, hk⟩ := (hI _ _).1 hstI
  by_cases c : i < rows.length
  rotate_left
  · have hil : rows.take i = rows := List.take_of_length_le (by omega)
    rw [hil] at e3
    simp -implicitDefEqProofs [e1, e3, e4, c, cBM, cBrs, cBr]
  have w_i : IntKind.i64.wrap ((i : Int) + 1) = ((i + 1 : Nat) : Int) := by rw [w64_id (by omega) (by omega)]; omega
  have hlr := hq _ (List.getElem_mem c)
  have hBi := hB (i + 1)
  have hBi0 := hB i
  simp -implicitDefEqProofs [e1, e4, c, cBM, cBrs, cBr]
  obtain ⟨J, hJ⟩ : ∃ J : Nat → St → Prop, ∀ k' s', J k' s' ↔ (∃ e p L, s' = ⟨e, .opn [(cBM ⟨s, rows⟩).map .c] false :: L⟩ ∧ e 1 = .one (.ptr ⟨0, 0, 0, 1⟩) ∧ e 3 = vI .i64 (estM (rows.take i) + estS rows[i].length (rows[i].length - cntT (rows[i].take p)) (cntT (rows[i].take p))) ∧ e 4 = vI .i64 (i : Nat) ∧ e 5 = vI .i64 rows[i].length ∧ e 6 = vI .i64 ((rows[i].length : Int) - (cntT (rows[i].take p) : Nat)) ∧ e 7 = vI .i64 (p : Nat) ∧ (p + k' = rows[i].length)) := ⟨_, fun _ _ => Iff.rfl⟩
  refine wpL_ind J ?_ rows[i].length _ ((hJ _ _).2 ⟨_, 0, _, (by first | rfl | (simp [e1, e3, e4, cBM, cBrs, cBr, cntT, estS]; done) | (simp [e1, e3, e4, cBM, cBrs, cBr, cntT, estS]; rfl) | (simp [e1, e3, e4, cBM, cBrs, cBr, cntT, estS]; and_intros <;> rfl)), by simp [e1], by simp [e3, cntT, estS], by simp [e4], by simp, by simp [cntT], by simp, by omega⟩)
  clear e1 e3 e4
  intro k' stJ hstJ
  obtain ⟨e, p, L, rfl, e1, e3, e4, e5, e6, e7, hk'⟩ := (hJ _ _).1 hstJ
  by_cases d : p < rows[i].length
  rotate_left
  · have hpl : rows[i].take p = rows[i] := List.take_of_length_le (by omega)
    rw [hpl] at e3
    have he : estM (rows.take (i + 1)) = estM (rows.take i) + estS rows[i].length (rows[i].length - cntT rows[i]) (cntT rows[i]) := by rw [estM_take c]; rfl
    rw [← he] at e3
    simp -implicitDefEqProofs [e4, e5, e7, d, w_i, cBM, cBrs, cBr]
    exact ⟨k - 1, by omega, (hI _ _).2 ⟨_, i + 1, _, (by first | rfl | (simp [cBM, cBrs, cBr]; done) | (simp [cBM, cBrs, cBr]; rfl) | (simp [cBM, cBrs, cBr]; and_intros <;> rfl)), by simp [e1], by simp [e3], by simp, by omega⟩⟩
  have w_p : IntKind.i64.wrap ((p : Int) + 1) = ((p + 1 : Nat) : Int) := by rw [w64_id (by omega) (by omega)]; omega
  have hct := cntT_take d
  have hcp : cntT (rows[i].take p) ≤ (rows[i].take p).length := cntT_le _
  rw [List.length_take] at hcp
  cases hb : rows[i][p] with
  | false =>
    rw [hb, if_neg (by decide)] at hct
    simp -implicitDefEqProofs [-List.map_take, e1, e4, e5, e7, c, d, hb, cB1, cBM, cBrs, cBr, w_p]
    exact ⟨k' - 1, by omega, (hJ _ _).2 ⟨_, p + 1, _, (by first | rfl | (simp [cBM, cBrs, cBr, hct]; done) | (simp [cBM, cBrs, cBr, hct]; rfl) | (simp [cBM, cBrs, cBr, hct]; and_intros <;> rfl)), by simp [e1], by simp [e3, hct], by simp [e4], by simp [e5], by simp [e6, hct], by simp, by omega⟩⟩
  | true =>
    rw [hb, if_pos rfl] at hct
    obtain ⟨n, hn⟩ : ∃ n, cntT (rows[i].take p) = n := ⟨_, rfl⟩
    rw [hn] at e3 e6 hct hcp
    obtain ⟨b, hbl⟩ : ∃ b, rows[i].length = b := ⟨_, rfl⟩
    rw [hbl] at e3 e5 e6 hcp hlr
    have hfr := estS_front (b := b) (c := n) (by omega)
    have hsb := estS_bound hlr n (b - n)
    have hdv : ((b : Int) * 65536).tdiv ((b : Int) - (n : Int)) = ((b * 65536 / (b - n) : Nat) : Int) := by
      rw [Int.tdiv_eq_ediv_of_nonneg (by omega), show (b : Int) - (n : Int) = ((b - n : Nat) : Int) by omega]
      rfl
    have hv0 : b * 65536 / (b - n) ≤ 16777216 := Nat.le_trans (Nat.div_le_self _ _) (by omega)
    obtain ⟨v, hv⟩ : ∃ v, b * 65536 / (b - n) = v := ⟨_, rfl⟩
    rw [hv] at hdv hfr hv0
    have w1 : IntKind.i64.wrap ((b : Int) * 65536) = (b : Int) * 65536 := w64_id (by omega) (by omega)
    have w2 : IntKind.i64.wrap (v : Int) = (v : Int) := w64_id (by omega) (by omega)
    have w3 : IntKind.i64.wrap (estM (rows.take i) + estS b (b - n) n + (v : Int)) = estM (rows.take i) + estS b (b - (n + 1)) (n + 1) := by rw [hfr, w64_id (by omega) (by omega)]; omega
    have w4 : IntKind.i64.wrap ((b : Int) - (n : Int) - 1) = (b : Int) - ((n : Int) + 1) := by rw [w64_id (by omega) (by omega)]; omega
    have hne : (b : Int) - (n : Int) ≠ 0 := by omega
    have db : p < b := by omega
    simp -implicitDefEqProofs [-List.map_take, e1, e3, e4, e5, e6, e7, c, d, db, hb, cB1, cBM, cBrs, cBr, w_p, w1, bin_quo hne, hdv, w2, w3, w4]
    exact ⟨k' - 1, by omega, (hJ _ _).2 ⟨_, p + 1, _, (by first | rfl | (simp [cBM, cBrs, cBr, hct, hbl, hdv, w2, w3, w4]; done) | (simp [cBM, cBrs, cBr, hct, hbl, hdv, w2, w3, w4]; rfl) | (simp [cBM, cBrs, cBr, hct, hbl, hdv, w2, w3, w4]; and_intros <;> rfl)), by simp [e1], by simp [hct, hbl], by simp [e4], by simp [e5, hbl], by simp [hct, hbl], by simp, by omega⟩⟩
def eqM (a b : BM) : Bool := decide (a.s = b.s ∧ a.rows = b.rows)
theorem eqM_iff {a b : BM} : eqM a b = true ↔ a = b := by
  unfold eqM
  rw [decide_eq_true_iff]
  constructor
  · rintro ⟨h1, h2⟩
    cases a; cases b; simp_all
  · rintro rfl; simp
theorem r13_Equal {A B : BM} (ha : LensM A) : TV.pu 42 [.agg (cBM A), .agg (cBM B)] = some (cB (eqM A B)) := by
  refine run42 (by simp) ?_
  obtain ⟨res, hres⟩ : ∃ res, eqM A B = res := ⟨_, rfl⟩
  rw [hres]
  have hT : A = B → res = true := fun h => by rw [← hres]; exact eqM_iff.2 h
  have hF : A ≠ B → res = false := fun h => by
    cases h2 : res with
    | false => rfl
    | true => rw [h2] at hres; exact absurd (eqM_iff.1 hres) h
  clear hres
  obtain ⟨s, rows⟩ := A
  obtain ⟨s', rows'⟩ := B
  obtain ⟨l1, l2⟩ := ha
  dsimp only at l1 l2
  by_cases c1 : s = s'
  rotate_left
  · have := hF (by rintro ⟨⟩; exact c1 rfl)
    simp -implicitDefEqProofs [Tryd.f42, cBM, cBrs, cBr, c1, this]
  subst c1
  by_cases c3 : rows.length = rows'.length
  rotate_left
  · have := hF (by rintro ⟨⟩; exact c3 rfl)
    have c3' : ¬ (rows.length : Int) = rows'.length := by omega
    simp -implicitDefEqProofs [Tryd.f42, cBM, cBrs, cBr, c3', this]
  have c3' : ((rows.length : Int) != (rows'.length : Int)) = false := by simp [c3]
  simp -implicitDefEqProofs [Tryd.f42, cBM, cBrs, cBr, c3']
  obtain ⟨I, hI⟩ : ∃ I : Nat → St → Prop, ∀ k s', I k s' ↔ (∃ e i L, s' = ⟨e, .opn [(cBM ⟨s, rows⟩).map .c] false :: .opn [(cBM ⟨s, rows'⟩).map .c] false :: L⟩ ∧ e 2 = .one (.ptr ⟨0, 0, 0, 1⟩) ∧ e 3 = .one (.ptr ⟨1, 0, 0, 1⟩) ∧ e 5 = vI .i64 (i : Nat) ∧ (i + k = rows.length) ∧ (∀ j (h : j < rows.length) (h' : j < rows'.length), j < i → rows[j] = rows'[j])) := ⟨_, fun _ _ => Iff.rfl⟩
  refine wpL_ind I ?_ rows.length _ ((hI _ _).2 ⟨_, 0, _, (by first | rfl | (simp [cBM, cBrs, cBr]; done) | (simp [cBM, cBrs, cBr]; rfl) | (simp [cBM, cBrs, cBr]; and_intros <;> rfl)), by simp, by simp, by simp, by simp, by omega⟩)
  intro k stI hstI
  obtain ⟨e, i, L, rfl, e2, e3, e5, hk, hno⟩ := (hI _ _).1 hstI
  by_cases c : i < rows.length
  rotate_left
  · have hrr : rows = rows' := List.ext_getElem c3 fun j q1 q2 => hno j q1 q2 (by omega)
    have := hT (by rw [hrr])
    simp -implicitDefEqProofs [e2, e5, cBM, cBrs, cBr, c, this]
  have w_i : IntKind.i64.wrap ((i : Int) + 1) = ((i + 1 : Nat) : Int) := by rw [w64_id (by omega) (by omega)]; omega
  have co : i < rows'.length := by omega
  by_cases d1 : rows[i].length = rows'[i].length
  rotate_left
  · have := hF (by rintro ⟨⟩; exact d1 rfl)
    have d1' : ¬ (rows[i].length : Int) = rows'[i].length := by omega
    simp -implicitDefEqProofs [e2, e3, e5, cBM, cBrs, cBr, c, co, d1', vmove, isNil, this]
  have d1' : ((rows[i].length : Int) != (rows'[i].length : Int)) = false := by simp [d1]
  have hlr := l2 _ (List.getElem_mem c)
  simp -implicitDefEqProofs [e2, e3, e5, cBM, cBrs, cBr, c, co, d1', vmove, isNil]
  obtain ⟨J, hJ⟩ : ∃ J : Nat → St → Prop, ∀ k' s', J k' s' ↔ (∃ e p L, s' = ⟨e, .opn [(cBM ⟨s, rows⟩).map .c] false :: .opn [(cBM ⟨s, rows'⟩).map .c] false :: L⟩ ∧ e 2 = .one (.ptr ⟨0, 0, 0, 1⟩) ∧ e 3 = .one (.ptr ⟨1, 0, 0, 1⟩) ∧ e 5 = vI .i64 (i : Nat) ∧ e 6 = vI .i64 (p : Nat) ∧ (p + k' = rows[i].length) ∧ (∀ q (h : q < rows[i].length) (h' : q < rows'[i].length), q < p → rows[i][q] = rows'[i][q])) := ⟨_, fun _ _ => Iff.rfl⟩
  refine wpL_ind J ?_ rows[i].length _ ((hJ _ _).2 ⟨_, 0, _, (by first | rfl | (simp [e2, e3, e5, cBM, cBrs, cBr]; done) | (simp [e2, e3, e5, cBM, cBrs, cBr]; rfl) | (simp [e2, e3, e5, cBM, cBrs, cBr]; and_intros <;> rfl)), by simp [e2], by simp [e3], by simp [e5], by simp, by omega, by omega⟩)
  clear e2 e3 e5
  intro k' stJ hstJ
  obtain ⟨e, p, L, rfl, e2, e3, e5, e6, hk', hnp⟩ := (hJ _ _).1 hstJ
  by_cases d : p < rows[i].length
  rotate_left
  · simp -implicitDefEqProofs [e2, e5, e6, c, d, w_i, cBM, cBrs, cBr]
    refine ⟨k - 1, by omega, (hI _ _).2 ⟨_, i + 1, _, (by first | rfl | (simp [cBM, cBrs, cBr]; done) | (simp [cBM, cBrs, cBr]; rfl) | (simp [cBM, cBrs, cBr]; and_intros <;> rfl)), by simp [e2], by simp [e3], by simp, by omega, fun q hq hq2 hq3 => ?_⟩⟩
    by_cases hqi : q = i
    · subst hqi
      exact List.ext_getElem d1 fun z q1 q2 => hnp z q1 q2 (by omega)
    · exact hno q hq hq2 (by omega)
  have w_p : IntKind.i64.wrap ((p : Int) + 1) = ((p + 1 : Nat) : Int) := by rw [w64_id (by omega) (by omega)]; omega
  have do' : p < rows'[i].length := by omega
  by_cases hb : rows[i][p] = rows'[i][p]
  · simp -implicitDefEqProofs [e2, e3, e5, e6, c, co, d, do', w_p, cBM, cBrs, cBr, cB1, hb, bin_bne ub4, vmove, isNil]
    refine ⟨k' - 1, by omega, (hJ _ _).2 ⟨_, p + 1, _, (by first | rfl | (simp [cBM, cBrs, cBr]; done) | (simp [cBM, cBrs, cBr]; rfl) | (simp [cBM, cBrs, cBr]; and_intros <;> rfl)), by simp [e2], by simp [e3], by simp [e5], by simp, by omega, fun q hq hq' hq2 => ?_⟩⟩
    by_cases hqp : q = p
    · subst hqp; exact hb
    · exact hnp q hq hq' (by omega)
  · have := hF (by rintro ⟨⟩; exact hb rfl)
    have hb2 : (rows[i][p] != rows'[i][p]) = true := by simpa using hb
    simp -implicitDefEqProofs [e2, e3, e5, e6, c, co, d, do', cBM, cBrs, cBr, cB1, hb2, bin_bne ub4, vmove, isNil, this]
end Go.Proofs.YtonkhpeahbjmmaaDoorF
end

section
/- The document's items. -/
set_option maxRecDepth 8192
set_option maxHeartbeats 1000000
namespace Go.Proofs.YtonkhpeahbjmmaaDoorF
open Go Go.Proofs.Vm

def cItms (l : List Itm) : CV := .arr (l.map cItm)
def aheadB (a b : Itm) : Bool := decide (ordI a b < 0)
theorem Ahead (a b : Itm) : TV.pu 70 [.agg (cItm a), .agg (cItm b)] = some (cB (aheadB a b)) := by
  refine run70 (by simp) ?_
  have hb := bl_cmpB a.1 b.1
  have ho := ordI_lt (a := a) (b := b)
  by_cases c1 : b.2 < a.2
  · have hf : aheadB a b = true := decide_eq_true (ho.2 (.inl c1))
    simp -implicitDefEqProofs [Tryd.f70, cItm, c1, hf]
  · have c1' : a.2 ≤ b.2 := by omega
    by_cases c2 : a.2 = b.2
    · have hf : aheadB a b = decide (cmpB a.1 b.1 < 0) := by
        unfold aheadB
        congr 1
        refine propext (ho.trans ⟨fun h => ?_, fun h => .inr ⟨c2.symm, h⟩⟩)
        rcases h with h | h
        · exact absurd h c1
        · exact h.2
      simp -implicitDefEqProofs [Tryd.f70, cItm, c2, hf, sbin_lss, hb]
    · have hf : aheadB a b = false := decide_eq_false (fun h => by rcases ho.1 h with h | h; · exact c1 h
                                                                   exact c2 h.1.symm)
      simp -implicitDefEqProofs [Tryd.f70, cItm, c1, c2, hf]

/-- The document's list with one more. -/
def insL (x : Itm) : List Itm → List Itm
  | [] => [x]
  | y :: r => if aheadB x y = true then x :: y :: r else y :: insL x r
theorem insL_len (x : Itm) : ∀ l, (insL x l).length = l.length + 1
  | [] => rfl
  | y :: r => by
    unfold insL
    split
    · rfl
    · simp [insL_len x r]
def notK (k : ByteArray) (l : List Itm) : List Itm := l.filter fun x => decide (x.1 ≠ k)
theorem notK_step {k : ByteArray} {l : List Itm} {i : Nat} (c : i < l.length) : notK k (l.take (i + 1)) = if l[i].1 = k then notK k (l.take i) else notK k (l.take i) ++ [l[i]] := by
  rw [List.take_add_one, List.getElem?_eq_getElem c]
  show (l.take i ++ [l[i]]).filter _ = _
  rw [List.filter_append]
  unfold notK
  by_cases d : l[i].1 = k <;> simp [d]
theorem take_itm (l : List Itm) : (l.map cItm).take l.length = l.map cItm := List.take_of_length_le (by simp)
theorem cItm_all (l : List Itm) : AllLen (l.map cItm) 2 := by intro x hx; obtain ⟨y, _, rfl⟩ := List.mem_map.1 hx; rfl

theorem Put (l : List Itm) (x : Itm) (hl : l.length < 1000) : TV.pu 45 [.one (cItms l), .agg (cItm x)] = some (.one (cItms (insL x l))) := by
  refine run45 (by simp) ?_
  simp -implicitDefEqProofs [Tryd.f45, cItms, cItm, vmove, isNil]
  obtain ⟨I, hI⟩ : ∃ I : Nat → St → Prop, ∀ n s', I n s' ↔ (∃ e i out put E L, s' = ⟨e, .opn [[.c (.v (.string x.1)), .c (.v (.int .i64 x.2))]] false :: E :: .clo (out.map cItm) false :: L⟩ ∧ e 0 = .one (.c (.arr (l.map cItm))) ∧ e 3 = .one (.ptr ⟨0, 0, 0, 1⟩) ∧ e 5 = .one (.sl 2 0 out.length out.length) ∧ e 6 = vB put ∧ e 7 = vI .i64 (i : Nat) ∧ i + n = l.length ∧ (put = true → out.length = i + 1 ∧ out ++ l.drop i = insL x l) ∧ (put = false → out.length = i ∧ out ++ insL x (l.drop i) = insL x l)) := ⟨_, fun _ _ => Iff.rfl⟩
  refine wpL_ind I ?_ l.length _ ((hI _ _).2 ⟨_, 0, [], false, _, _, rfl, by simp, by simp, by simp, by simp, by simp, by omega, by simp, by simp⟩)
  intro n st hst
  obtain ⟨e, i, out, put, E, L, rfl, e0, e3, e5, e6, e7, hn, hp1, hp2⟩ := (hI _ _).1 hst
  by_cases c : i < l.length
  · have w1 : IntKind.i64.wrap ((i : Int) + 1) = ((i + 1 : Nat) : Int) := by rw [w64_id (by omega) (by omega)]; omega
    have hd : l.drop i = l[i] :: l.drop (i + 1) := List.drop_eq_getElem_cons c
    have hal := cItm_all out
    have hA := Ahead x l[i]
    simp only [cItm] at hA
    cases put with
    | true =>
      obtain ⟨g1, g2⟩ := hp1 rfl
      have b1 : 24 * (out.length + 1) ≤ 140737488355328 := by omega
      have b2 : out.length + 1 ≤ 4611686018427387904 := by omega
      simp -implicitDefEqProofs [e0, e5, e6, e7, c, cItm, w1, vmove, isNil, vappend_sp es40 es40 el91, vbuildSlice_eq es40 el91, cellsOf?, fzParts, setAll, rchParts, rch, elemsOf, b1, b2, hal]
      exact ⟨n - 1, by omega, (hI _ _).2 ⟨_, i + 1, out ++ [l[i]], true, _, _, by simp only [List.map_append, List.map_cons, List.map_nil, cItm]; rfl, by simp [e0], by simp [e3], by simp, by simp [e6], by simp, by omega, fun _ => ⟨by simp [g1], by rw [← g2, hd]; simp⟩, by simp⟩⟩
    | false =>
      obtain ⟨g1, g2⟩ := hp2 rfl
      have b1 : 24 * (out.length + 1) ≤ 140737488355328 := by omega
      have b2 : out.length + 1 ≤ 4611686018427387904 := by omega
      have b3 : 24 * (out.length + 1 + 1) ≤ 140737488355328 := by omega
      have b4 : out.length + 1 + 1 ≤ 4611686018427387904 := by omega
      have hal2 := cItm_all (out ++ [x])
      simp only [List.map_append, List.map_cons, List.map_nil, cItm] at hal2
      cases ha : aheadB x l[i] with
      | true =>
        rw [ha] at hA
        simp -implicitDefEqProofs [e0, e3, e5, e6, e7, c, cItm, w1, hA, vmove, isNil, cellsAt, vappend_sp es40 es40 el91, vbuildSlice_eq es40 el91, cellsOf?, fzParts, setAll, rchParts, rch, elemsOf, b1, b2, b3, b4, hal, hal2, mapO, fzc, frzAll]
        exact ⟨n - 1, by omega, (hI _ _).2 ⟨_, i + 1, out ++ [x, l[i]], true, _, _, by simp only [List.map_append, List.map_cons, List.map_nil, cItm]; rfl, by simp [e0], by simp [e3], by simp, by simp, by simp, by omega, fun _ => ⟨by simp [g1], by rw [← g2, hd]; simp [insL, ha]⟩, by simp⟩⟩
      | false =>
        rw [ha] at hA
        simp -implicitDefEqProofs [e0, e3, e5, e6, e7, c, cItm, w1, hA, vmove, isNil, cellsAt, vappend_sp es40 es40 el91, vbuildSlice_eq es40 el91, cellsOf?, fzParts, setAll, rchParts, rch, elemsOf, b1, b2, hal, mapO, fzc, frzAll]
        exact ⟨n - 1, by omega, (hI _ _).2 ⟨_, i + 1, out ++ [l[i]], false, _, _, by simp only [List.map_append, List.map_cons, List.map_nil, cItm]; rfl, by simp [e0], by simp [e3], by simp, by simp [e6], by simp, by omega, by simp, fun _ => ⟨by simp [g1], by rw [← g2, hd]; simp [insL, ha]⟩⟩⟩
  · have hdr : l.drop i = [] := List.drop_eq_nil_iff.2 (by omega)
    have hal := cItm_all out
    rw [hdr] at hp1 hp2
    cases put with
    | true =>
      obtain ⟨g1, g2⟩ := hp1 rfl
      rw [List.append_nil] at g2
      rw [← g2]
      simp -implicitDefEqProofs [e0, e5, e6, e7, c, vmove, isNil, take_itm]
    | false =>
      obtain ⟨g1, g2⟩ := hp2 rfl
      have b1 : 24 * (out.length + 1) ≤ 140737488355328 := by omega
      have b2 : out.length + 1 ≤ 4611686018427387904 := by omega
      have htk := take_itm (out ++ [x])
      simp only [List.map_append, List.map_cons, List.map_nil, List.length_append, List.length_cons, List.length_nil, Nat.zero_add, cItm] at htk
      rw [← g2]
      simp -implicitDefEqProofs [e0, e3, e5, e6, e7, c, cItm, insL, htk, vmove, isNil, cellsAt, vappend_sp es40 es40 el91, vbuildSlice_eq es40 el91, cellsOf?, fzParts, setAll, rchParts, rch, elemsOf, b1, b2, hal]

theorem refGet (m : List Itm) (k : ByteArray) (hl : m.length < 900) :
    TV.pu 44 [.one (cItms m), .one (.v (.string k))] = some (.tup [(false, [.v (.int .i64 ((mget k m).getD 0))]), (false, [.v (.bool (mget k m).isSome)])]) := by
  refine run44 (by simp) ?_
  simp -implicitDefEqProofs [Tryd.f44, cItms]
  obtain ⟨I, hI⟩ : ∃ I : Nat → St → Prop, ∀ n s', I n s' ↔ (∃ e i, s' = ⟨e, []⟩ ∧ e 0 = .one (.c (.arr (m.map cItm))) ∧ e 1 = vS k ∧ e 6 = vI .i64 (i : Nat) ∧ i + n = m.length ∧ mget k m = mget k (m.drop i)) := ⟨_, fun _ _ => Iff.rfl⟩
  refine wpL_ind I ?_ m.length _ ((hI _ _).2 ⟨_, 0, rfl, by simp, by simp, by simp, by omega, by simp⟩)
  intro n st hst
  obtain ⟨e, i, rfl, e0, e1, e6, hn, hg⟩ := (hI _ _).1 hst
  by_cases c : i < m.length
  · have w1 : IntKind.i64.wrap ((i : Int) + 1) = ((i + 1 : Nat) : Int) := by rw [w64_id (by omega) (by omega)]; omega
    rw [List.drop_eq_getElem_cons c] at hg
    by_cases d : m[i].1 = k
    · have hg' : mget k m = some m[i].2 := by rw [hg]; unfold mget; rw [if_pos d.symm]
      rw [hg']
      simp -implicitDefEqProofs [e0, e1, e6, c, cItm, sbin_eql, d]
    · have hg' : mget k m = mget k (m.drop (i + 1)) := by rw [hg]; exact if_neg (fun h => d h.symm)
      simp -implicitDefEqProofs [e0, e1, e6, c, cItm, sbin_eql, toList_inj, d, w1]
      exact ⟨n - 1, by omega, (hI _ _).2 ⟨_, i + 1, rfl, by simp [e0], by simp [e1], by simp, by omega, hg'⟩⟩
  · have hg' : mget k m = none := by rw [hg, List.drop_eq_nil_iff.2 (by omega)]; rfl
    rw [hg']
    simp -implicitDefEqProofs [e0, e6, c]

end Go.Proofs.YtonkhpeahbjmmaaDoorF
end

section
/- Spread sketches: what a right one is. -/
set_option maxRecDepth 8192
set_option maxHeartbeats 1000000
namespace Go.Proofs.YtonkhpeahbjmmaaDoorF
open Go Go.Proofs.Vm

def sEq (u v : ByteArray) : Bool := u.toList == v.toList
theorem sEq_iff {u v : ByteArray} : sEq u v = true ↔ u = v := by
  unfold sEq
  rw [beq_iff_eq]
  exact toList_inj
structure Bkt where
  m : BM
  src : ByteArray
  lev : Int
def cBk (b : Bkt) : List CV := [.v (.int .u64 b.m.s), cBrs b.m.rows, .v (.string b.src), .v (.int .i64 b.lev)]
structure Skt where
  s : Int
  rows : List (List Bkt)
def cBks (r : List Bkt) : CV := .arr (r.map cBk)
def cBkr (rows : List (List Bkt)) : CV := .arr (rows.map fun r => [cBks r])
def cSk (s : Skt) : List CV := [.v (.int .u64 s.s), cBkr s.rows]
/-- Lengths that any memory has. -/
def LensS (s : Skt) : Prop := s.rows.length < 4611686018427387904 ∧ ∀ r ∈ s.rows, r.length < 4611686018427387904 ∧ ∀ b ∈ r, LensM b.m
def SeedS (s : Skt) : Prop := 0 ≤ s.s ∧ s.s < 18446744073709551616 ∧ ∀ r ∈ s.rows, ∀ b ∈ r, 0 ≤ b.m.s ∧ b.m.s < 18446744073709551616

theorem index_bools {v : Bool} {r : List Bool} (hl : r.length < 9223372036854775807) : TV.pu 89 [.one (cBr r), cB v] = some (cI .i64 (idxF (fun b => v == b) r)) := by
  refine run89 (by simp) ?_
  simp [Tryd.f89, cBr]
  obtain ⟨I, hI⟩ : ∃ I : Nat → St → Prop, ∀ k s', I k s' ↔ (∃ e j L, s' = ⟨e, L⟩ ∧ e 0 = .one (.c (cBr r)) ∧ e 1 = vB v ∧ e 7 = vI .i64 r.length ∧ e 8 = vI .i64 (j : Nat) ∧ (j + k = r.length) ∧ (∀ q, q < j → ∀ x, r[q]? = some x → (fun b => v == b) x = false)) := ⟨_, fun _ _ => Iff.rfl⟩
  refine wpL_ind I ?_ r.length _ ((hI _ _).2 ⟨_, 0, _, (by first | rfl | (simp [cBr]; done) | (simp [cBr]; rfl) | (simp [cBr]; and_intros <;> rfl)), by simp [cBr], by simp, by simp, by simp, by omega, by simp⟩)
  intro k stI hstI
  obtain ⟨e, j, L, rfl, e0, e1, e7, e8, hk, hno⟩ := (hI _ _).1 hstI
  by_cases c : j < r.length
  · have hx : r[j]? = some r[j] := List.getElem?_eq_getElem c
    have w_j : IntKind.i64.wrap ((j : Int) + 1) = ((j + 1 : Nat) : Int) := by rw [w64_id (by omega) (by omega)]; omega
    by_cases hj : v = r[j]
    · have hj2 : (fun b => v == b) r[j] = true := by simpa using hj
      rw [idxF_at _ r j c hj2 hno]
      simp [e0, e1, e7, e8, c, cBr, cB1, w_j, hj, bin_beq ub4]
    · have hj2 : (v == r[j]) = false := by simpa using hj
      simp [e0, e1, e7, e8, c, cBr, cB1, w_j, hj2, bin_beq ub4]
      refine ⟨k - 1, by omega, (hI _ _).2 ⟨_, j + 1, _, (by first | rfl | (simp [cBr]; done) | (simp [cBr]; rfl) | (simp [cBr]; and_intros <;> rfl)), by simp [e0, cBr], by simp [e1], by simp [e7], by simp, by omega, ?_⟩⟩
      intro q hq x hx2
      by_cases hqj : q = j
      · subst hqj
        rw [hx] at hx2
        cases hx2
        exact hj2
      · exact hno q (by omega) x hx2
  · have c' : ¬ (j : Int) < (r.length : Int) := by omega
    rw [idxF_none _ r fun q hq => hno q (by omega)]
    simp [e0, e1, e7, e8, c']
theorem contains_bools {v : Bool} {r : List Bool} (hl : r.length < 9223372036854775807) : TV.pu 68 [.one (cBr r), cB v] = some (cB (r.any fun b => v == b)) := by
  refine run68 (by simp) ?_
  have h := index_bools (v := v) hl
  simp only [cBr] at h
  simp [Tryd.f68, cBr, h, idxF_ge]
def noneB (rows : List (List Bool)) : Bool := !rows.any fun r => r.any fun b => true == b
theorem sp_none1 {r : List Bool} (hl : r.length < 9223372036854775807) : TV.pu 67 [.one (cBr r)] = some (cB (r.any fun b => true == b)) := by
  refine run67 (by simp) ?_
  have h := contains_bools (v := true) hl
  simp only [cBr] at h
  simp -implicitDefEqProofs [Tryd.f67, cBr, h]
theorem sp_none {m : BM} (hl : LensM m) : TV.pu 41 [.agg (cBM m)] = some (cB (noneB m.rows)) := by
  refine run41 (by simp) ?_
  have h := contains_brows (g := .fn 67 []) rfl (p := fun r => r.any fun b => true == b) (r := m.rows) (fun n hn => sp_none1 (by have := hl.2 n hn; omega)) (by have := hl.1; omega)
  simp only [cBrs, cBr] at h
  simp -implicitDefEqProofs [Tryd.f41, cBM, cBrs, cBr, h, noneB]
def emptyS (b : Bkt) : Bool := sEq b.src ByteArray.empty && noneB b.m.rows
def badB (s : Int) (f : BM) (b : Bkt) : Bool := !mOk b.m || decide (b.m.s ≠ hrow s 0) || decide (b.m.rows.length ≠ f.rows.length) || decide ((b.m.rows.headD []).length ≠ (f.rows.headD []).length) || decide (b.lev < -1) || decide (16 < b.lev) || (decide (b.lev = -1) != emptyS b)
def fstM (rows : List (List Bkt)) : BM := match rows with
  | (b :: _) :: _ => b.m
  | _ => ⟨0, []⟩
def sOk (s : Skt) : Bool := decide (1 ≤ s.rows.length) && decide (s.rows.length ≤ 7) && decide (1 ≤ (s.rows.headD []).length) && decide ((s.rows.headD []).length ≤ 256) && s.rows.all fun r => decide (r.length = (s.rows.headD []).length) && r.all fun b => !badB s.s (fstM s.rows) b
theorem sOk_facts {s : Skt} (h : sOk s = true) : 1 ≤ s.rows.length ∧ s.rows.length ≤ 7 ∧ 1 ≤ (s.rows.headD []).length ∧ (s.rows.headD []).length ≤ 256 ∧ ∀ r ∈ s.rows, r.length = (s.rows.headD []).length ∧ ∀ b ∈ r, badB s.s (fstM s.rows) b = false := by
  unfold sOk at h
  simp only [Bool.and_eq_true, decide_eq_true_eq, List.all_eq_true, Bool.not_eq_true'] at h
  obtain ⟨⟨⟨⟨h1, h2⟩, h3⟩, h4⟩, h5⟩ := h
  exact ⟨h1, h2, h3, h4, h5⟩
theorem badB_facts {s : Int} {f : BM} {b : Bkt} (h : badB s f b = false) : mOk b.m = true ∧ b.m.s = hrow s 0 ∧ b.m.rows.length = f.rows.length ∧ (b.m.rows.headD []).length = (f.rows.headD []).length ∧ -1 ≤ b.lev ∧ b.lev ≤ 16 ∧ (b.lev = -1 ↔ emptyS b = true) := by
  unfold badB at h
  simp only [Bool.or_eq_false_iff, decide_eq_false_iff_not, Bool.not_eq_false', Decidable.not_not, bne_eq_false_iff_eq] at h
  obtain ⟨⟨⟨⟨⟨⟨h1, h2⟩, h3⟩, h4⟩, h5⟩, h6⟩, h7⟩ := h
  refine ⟨h1, h2, h3, h4, by omega, by omega, ?_⟩
  rw [← h7, decide_eq_true_iff]
theorem badB_of {s : Int} {f : BM} {b : Bkt} (h1 : mOk b.m = true) (h2 : b.m.s = hrow s 0) (h3 : b.m.rows.length = f.rows.length) (h4 : (b.m.rows.headD []).length = (f.rows.headD []).length) (h5 : -1 ≤ b.lev) (h6 : b.lev ≤ 16) (h7 : b.lev = -1 ↔ emptyS b = true) : badB s f b = false := by
  unfold badB
  simp only [Bool.or_eq_false_iff, decide_eq_false_iff_not, Bool.not_eq_false', Decidable.not_not, bne_eq_false_iff_eq]
  refine ⟨⟨⟨⟨⟨⟨h1, h2⟩, h3⟩, h4⟩, by omega⟩, by omega⟩, ?_⟩
  rw [Bool.eq_iff_iff, decide_eq_true_iff]
  exact h7
def splc (s : Int) (src : ByteArray) (i n : Nat) : Int := hcell (hrow s ((i : Int) + 1)) src (n : Int)
theorem sp_place {S : Skt} {src : ByteArray} {i : Nat} (h0 : 0 ≤ S.s) (h1 : S.s < 18446744073709551616) (hl : S.rows.length < 4611686018427387904) (hi : i < S.rows.length) (hlr : S.rows[i].length < 4611686018427387904) (hs : src.size ≤ 140737488351232) : TV.pu 28 [.agg (cSk S), cS src, cI .i64 i] = some (cI .i64 (splc S.s src i S.rows[i].length)) := by
  refine run28 (by simp) ?_
  have w1 : IntKind.i64.wrap ((i : Int) + 1) = (i : Int) + 1 := w64_id (by omega) (by omega)
  have hrw := hash_Row (s := S.s) (i := (i : Int) + 1) h0 h1 (by omega) (by omega)
  have hrr := hrow_range S.s ((i : Int) + 1)
  have hcl := hash_Cell (seed := hrow S.s ((i : Int) + 1)) (s := src) (n := (S.rows[i].length : Int)) hrr.1 (by omega) hs (by omega)
  simp -implicitDefEqProofs [Tryd.f28, cSk, cBkr, cBks, w1, hi, hrw, hcl, splc]
theorem splc_range {s : Int} {src : ByteArray} {i n : Nat} (h : 1 ≤ n) : 0 ≤ splc s src i n ∧ splc s src i n < n := hcell_range _ _ _ (by omega)
end Go.Proofs.YtonkhpeahbjmmaaDoorF
end

section
/- Spread sketches: is one right? -/
set_option maxRecDepth 8192
set_option maxHeartbeats 1000000
namespace Go.Proofs.YtonkhpeahbjmmaaDoorF
open Go Go.Proofs.Vm

theorem sOk_bad {S : Skt} {i : Nat} (h : i < S.rows.length) (hw : (decide (S.rows[i].length = (S.rows.headD []).length) && S.rows[i].all fun b => !badB S.s (fstM S.rows) b) = false) : sOk S = false := by
  unfold sOk
  have : (S.rows.all fun r => decide (r.length = (S.rows.headD []).length) && r.all fun b => !badB S.s (fstM S.rows) b) = false := List.all_eq_false.2 ⟨_, List.getElem_mem h, by rw [hw]; decide⟩
  rw [this]; simp
theorem sp_Right {S : Skt} (hs0 : 0 ≤ S.s) (hs1 : S.s < 18446744073709551616) (hl : LensS S) : TV.pu 16 [.agg (cSk S)] = some (cB (sOk S)) := by
  refine run16 (by simp) ?_
  obtain ⟨s, rows⟩ := S
  obtain ⟨l1, l2⟩ := hl
  dsimp only at hs0 hs1 l1 l2
  have hrw := hash_Row (s := s) (i := 0) hs0 hs1 (by omega) (by omega)
  obtain ⟨res, hres⟩ : ∃ res, sOk ⟨s, rows⟩ = res := ⟨_, rfl⟩
  have hbad : ∀ i (hi : i < rows.length), (decide (rows[i].length = (rows.headD []).length) && rows[i].all fun b => !badB s (fstM rows) b) = false → res = false := fun i hi hw => by rw [← hres]; exact sOk_bad (S := ⟨s, rows⟩) hi hw
  rw [hres]
  by_cases c3 : 1 ≤ rows.length
  rotate_left
  · have : res = false := by rw [← hres, sOk]; simp [c3]
    have c3' : (rows.length : Int) < 1 := by omega
    simp -implicitDefEqProofs [Tryd.f16, cSk, cBkr, c3', this]
  have c3' : ¬ (rows.length : Int) < 1 := by omega
  by_cases c4 : rows.length ≤ 7
  rotate_left
  · have : res = false := by rw [← hres, sOk]; simp [c4]
    have c4' : 7 < (rows.length : Int) := by omega
    simp -implicitDefEqProofs [Tryd.f16, cSk, cBkr, c3', c4', this]
  have c4' : ¬ 7 < (rows.length : Int) := by omega
  have hh0 : 0 < rows.length := by omega
  have hhd : rows.headD [] = rows[0] := headD_get hh0
  have hl0 := (l2 _ (List.getElem_mem hh0)).1
  by_cases c5 : 1 ≤ rows[0].length
  rotate_left
  · have : res = false := by rw [← hres, sOk]; dsimp only; rw [hhd]; simp [c5]
    have c5' : (rows[0].length : Int) < 1 := by omega
    simp -implicitDefEqProofs [Tryd.f16, cSk, cBkr, cBks, hh0, c3', c4', c5', this]
  have c5' : ¬ (rows[0].length : Int) < 1 := by omega
  by_cases c6 : rows[0].length ≤ 256
  rotate_left
  · have : res = false := by rw [← hres, sOk]; dsimp only; rw [hhd]; simp [c6]
    have c6' : 256 < (rows[0].length : Int) := by omega
    simp -implicitDefEqProofs [Tryd.f16, cSk, cBkr, cBks, hh0, c3', c4', c5', this]
    try (intro h; omega)
  have c6' : ¬ 256 < (rows[0].length : Int) := by omega
  have c6n : (rows[0].length : Int) ≤ 256 := by omega
  have h00 : 0 < rows[0].length := by omega
  have hfm : fstM rows = rows[0][0].m := by
    cases rows with
    | nil => simp at hh0
    | cons r t => cases r with | nil => simp at h00 | cons b t2 => rfl
  obtain ⟨f, hf⟩ : ∃ f, rows[0][0] = f := ⟨_, rfl⟩
  have hcf : cBk rows[0][0] = [.v (.int .u64 f.m.s), cBrs f.m.rows, .v (.string f.src), .v (.int .i64 f.lev)] := by rw [hf]; rfl
  rw [hf] at hfm
  rw [hfm, hhd] at hbad
  simp -implicitDefEqProofs [Tryd.f16, cSk, cBkr, cBks, hh0, h00, hcf, cBrs, cBr, c3', c4', c5', hrw, vmove, isNil, vstore, cellsOf?, Ent.wrO, wr]
  split
  · rename_i h
    exact absurd h c6'
  have hnoneq : ∀ b ∈ rows.flatten, True := fun _ _ => trivial
  clear hnoneq
  obtain ⟨I, hI⟩ : ∃ I : Nat → St → Prop, ∀ k s', I k s' ↔ (∃ e i L, s' = ⟨e, .opn [(cSk ⟨s, rows⟩).map .c] false :: .opn [(cBM f.m).map .c] false :: L⟩ ∧ e 1 = .one (.ptr ⟨0, 0, 0, 1⟩) ∧ e 3 = vI .u64 (hrow s 0) ∧ e 4 = .one (.ptr ⟨1, 0, 0, 1⟩) ∧ e 47 = .one (.c (cBkr rows)) ∧ e 48 = vI .i64 rows.length ∧ e 49 = vI .i64 (i : Nat) ∧ (i + k = rows.length) ∧ (∀ j (h : j < rows.length), j < i → (decide (rows[j].length = rows[0].length) && rows[j].all fun b => !badB s f.m b) = true)) := ⟨_, fun _ _ => Iff.rfl⟩
  refine wpL_ind I ?_ rows.length _ ((hI _ _).2 ⟨_, 0, _, (by first | rfl | (simp [cSk, cBkr, cBks, cBM, cBrs, cBr]; done) | (simp [cSk, cBkr, cBks, cBM, cBrs, cBr]; rfl) | (simp [cSk, cBkr, cBks, cBM, cBrs, cBr]; and_intros <;> rfl)), by simp, by simp, by simp, by simp [cBkr, cBks], by simp, by simp, by simp, by omega⟩)
  intro k stI hstI
  obtain ⟨e, i, L, rfl, e1, e3, e4, e47, e48, e49, hk, hno⟩ := (hI _ _).1 hstI
  by_cases c : i < rows.length
  rotate_left
  · have : res = true := by
      rw [← hres, sOk]
      dsimp only
      rw [hhd, hfm]
      have hall : (rows.all fun r => decide (r.length = rows[0].length) && r.all fun b => !badB s f.m b) = true := List.all_eq_true.2 fun x hx => by
        obtain ⟨q, hq, rfl⟩ := List.getElem_of_mem hx
        exact hno q hq (by omega)
      rw [hall]; simp [c3, c4, c5, c6]
    simp -implicitDefEqProofs [e48, e49, cSk, cBkr, cBks, c, this]
  have w_i : IntKind.i64.wrap ((i : Int) + 1) = ((i + 1 : Nat) : Int) := by rw [w64_id (by omega) (by omega)]; omega
  have hbi := hbad i c
  have hlr := (l2 _ (List.getElem_mem c)).1
  by_cases d1 : rows[i].length = rows[0].length
  rotate_left
  · rw [hbi (by simp [d1])]
    have d1' : ¬ (rows[i].length : Int) = rows[0].length := by omega
    simp -implicitDefEqProofs [e1, e47, e48, e49, cSk, cBkr, cBks, hh0, c, d1', vmove, isNil]
  have d1' : ((rows[i].length : Int) != (rows[0].length : Int)) = false := by simp [d1]
  rw [decide_eq_true d1, Bool.true_and] at hbi
  simp -implicitDefEqProofs [e1, e47, e48, e49, cSk, cBkr, cBks, hh0, c, d1', vmove, isNil]
  obtain ⟨J, hJ⟩ : ∃ J : Nat → St → Prop, ∀ k' s', J k' s' ↔ (∃ e p L, s' = ⟨e, .opn [(cSk ⟨s, rows⟩).map .c] false :: .opn [(cBM f.m).map .c] false :: L⟩ ∧ e 1 = .one (.ptr ⟨0, 0, 0, 1⟩) ∧ e 3 = vI .u64 (hrow s 0) ∧ e 4 = .one (.ptr ⟨1, 0, 0, 1⟩) ∧ e 47 = .one (.c (cBkr rows)) ∧ e 48 = vI .i64 rows.length ∧ e 49 = vI .i64 (i : Nat) ∧ e 61 = .one (.c (cBks rows[i])) ∧ e 62 = vI .i64 rows[i].length ∧ e 63 = vI .i64 (p : Nat) ∧ (p + k' = rows[i].length) ∧ (∀ q (h : q < rows[i].length), q < p → badB s f.m rows[i][q] = false)) := ⟨_, fun _ _ => Iff.rfl⟩
  refine wpL_ind J ?_ rows[i].length _ ((hJ _ _).2 ⟨_, 0, _, (by first | rfl | (simp [e1, e3, e4, e47, e48, e49, cSk, cBkr, cBks, cBM, cBrs, cBr]; done) | (simp [e1, e3, e4, e47, e48, e49, cSk, cBkr, cBks, cBM, cBrs, cBr]; rfl) | (simp [e1, e3, e4, e47, e48, e49, cSk, cBkr, cBks, cBM, cBrs, cBr]; and_intros <;> rfl)), by simp [e1], by simp [e3], by simp [e4], by simp [e47, cBkr, cBks], by simp [e48], by simp [e49], by simp [cBks], by simp, by simp, by omega, by omega⟩)
  clear e1 e3 e4 e47 e48 e49
  intro k' stJ hstJ
  obtain ⟨e, p, L, rfl, e1, e3, e4, e47, e48, e49, e61, e62, e63, hk', hnp⟩ := (hJ _ _).1 hstJ
  by_cases d : p < rows[i].length
  rotate_left
  · simp -implicitDefEqProofs [e49, e62, e63, d, w_i, cSk, cBkr, cBks]
    refine ⟨k - 1, by omega, (hI _ _).2 ⟨_, i + 1, _, (by first | rfl | (simp [cSk, cBkr, cBks]; done) | (simp [cSk, cBkr, cBks]; rfl) | (simp [cSk, cBkr, cBks]; and_intros <;> rfl)), by simp [e1], by simp [e3], by simp [e4], by simp [e47, cBkr, cBks], by simp [e48], by simp, by omega, fun q hq hq2 => ?_⟩⟩
    by_cases hqi : q = i
    · subst hqi
      rw [decide_eq_true d1, Bool.true_and]
      exact List.all_eq_true.2 fun x hx => by
        obtain ⟨z, hz, rfl⟩ := List.getElem_of_mem hx
        rw [hnp z hz (by omega)]; rfl
    · exact hno q hq (by omega)
  have w_p : IntKind.i64.wrap ((p : Int) + 1) = ((p + 1 : Nat) : Int) := by rw [w64_id (by omega) (by omega)]; omega
  have hbp : badB s f.m rows[i][p] = true → res = false := fun h => hbi (List.all_eq_false.2 ⟨_, List.getElem_mem d, by rw [h]; decide⟩)
  have hnx : badB s f.m rows[i][p] = false → ∀ q (h : q < rows[i].length), q < p + 1 → badB s f.m rows[i][q] = false := fun hg q hq hq2 => by
    by_cases hqp : q = p
    · subst hqp; exact hg
    · exact hnp q hq (by omega)
  have hlb := (l2 _ (List.getElem_mem c)).2 _ (List.getElem_mem d)
  have hMR := bm_Right (m := rows[i][p].m) (by have := hlb.1; omega)
  have hNo := sp_none hlb
  obtain ⟨b, hb⟩ : ∃ b, rows[i][p] = b := ⟨_, rfl⟩
  have hcl : cBk rows[i][p] = [.v (.int .u64 b.m.s), cBrs b.m.rows, .v (.string b.src), .v (.int .i64 b.lev)] := by rw [hb]; rfl
  rw [hb] at hbp hnx hlb hMR hNo
  simp only [cBM, cBrs, cBr] at hMR hNo
  unfold badB at hbp
  cases g1 : mOk b.m with
  | false =>
    rw [g1] at hMR
    rw [hbp (by rw [g1]; simp)]
    simp -implicitDefEqProofs [e61, e62, e63, d, hcl, hMR, cSk, cBkr, cBks, cBM, cBrs, cBr, vmove, isNil, vstore, cellsOf?, Ent.wrO, wr]
  | true =>
  rw [g1] at hMR
  by_cases g2 : b.m.s = hrow s 0
  rotate_left
  · rw [hbp (by simp [g2])]
    simp -implicitDefEqProofs [e3, e61, e62, e63, d, hcl, hMR, g2, cSk, cBkr, cBks, cBM, cBrs, cBr, vmove, isNil, vstore, cellsOf?, Ent.wrO, wr]
  rw [g2] at hMR hNo
  by_cases g3 : b.m.rows.length = f.m.rows.length
  rotate_left
  · rw [hbp (by simp [g3])]
    have g3' : ¬ (b.m.rows.length : Int) = f.m.rows.length := by omega
    simp -implicitDefEqProofs [e3, e4, e61, e62, e63, d, hcl, hMR, g2, g3', cSk, cBkr, cBks, cBM, cBrs, cBr, vmove, isNil, vstore, cellsOf?, Ent.wrO, wr]
  have g3' : ((b.m.rows.length : Int) != (f.m.rows.length : Int)) = false := by simp [g3]
  have q1 := (mOk_facts g1).1
  have x0 : 0 < b.m.rows.length := by omega
  have y0 : 0 < f.m.rows.length := by omega
  have xh : b.m.rows.headD [] = b.m.rows[0] := headD_get x0
  have yh : f.m.rows.headD [] = f.m.rows[0] := headD_get y0
  have x1 := (mOk_facts g1).2.2 _ (List.getElem_mem x0)
  rw [xh, yh] at hbp
  by_cases g4 : b.m.rows[0].length = f.m.rows[0].length
  rotate_left
  · rw [hbp (by simp [g4])]
    have g4' : ¬ (b.m.rows[0].length : Int) = f.m.rows[0].length := by omega
    simp -implicitDefEqProofs [e3, e4, e61, e62, e63, d, hcl, hMR, g2, g3', x0, y0, g4', cSk, cBkr, cBks, cBM, cBrs, cBr, vmove, isNil, vstore, cellsOf?, Ent.wrO, wr]
  have g4' : ((b.m.rows[0].length : Int) != (f.m.rows[0].length : Int)) = false := by simp [g4]
  by_cases g5 : b.lev < -1
  · rw [hbp (by simp [g5])]
    simp -implicitDefEqProofs [e3, e4, e61, e62, e63, d, hcl, hMR, g2, g3', x0, y0, g4', g5, cSk, cBkr, cBks, cBM, cBrs, cBr, vmove, isNil, vstore, cellsOf?, Ent.wrO, wr]
  by_cases g6 : 16 < b.lev
  · rw [hbp (by simp [g6])]
    simp -implicitDefEqProofs [e3, e4, e61, e62, e63, d, hcl, hMR, g2, g3', x0, y0, g4', g5, g6, cSk, cBkr, cBks, cBM, cBrs, cBr, vmove, isNil, vstore, cellsOf?, Ent.wrO, wr]
  have hbp2 : (decide (b.lev = -1) != emptyS b) = true → res = false := fun h => hbp (by rw [h]; simp)
  have hnx2 : (decide (b.lev = -1) != emptyS b) = false → ∀ q (h : q < rows[i].length), q < p + 1 → badB s f.m rows[i][q] = false := fun h => hnx (by unfold badB; rw [xh, yh, h, g1]; simp [g2, g3, g4, g5, g6])
  clear hbp hnx
  unfold emptyS at hbp2 hnx2
  have hse := sEq_iff (u := b.src) (v := ByteArray.empty)
  have g6n : b.lev ≤ 16 := by omega
  have g5n : -1 ≤ b.lev := by omega
  by_cases k1 : b.src = ByteArray.empty
  · rw [hse.2 k1, Bool.true_and] at hbp2 hnx2
    cases k2 : noneB b.m.rows with
    | true =>
      rw [k2] at hNo hbp2 hnx2
      by_cases k3 : b.lev = -1
      · simp -implicitDefEqProofs [e3, e4, e61, e62, e63, d, hcl, hMR, hNo, g2, g3', x0, y0, g4', k1, k3, w_p, bin_bne ub4, cSk, cBkr, cBks, cBM, cBrs, cBr, vmove, isNil, vstore, cellsOf?, Ent.wrO, wr]
        exact ⟨k' - 1, by omega, (hJ _ _).2 ⟨_, p + 1, _, (by first | rfl | (simp [cSk, cBkr, cBks, cBM, cBrs, cBr, hcl]; done) | (simp [cSk, cBkr, cBks, cBM, cBrs, cBr, hcl]; rfl) | (simp [cSk, cBkr, cBks, cBM, cBrs, cBr, hcl]; and_intros <;> rfl)), by simp [e1], by simp [e3], by simp [e4], by simp [e47, cBkr, cBks], by simp [e48], by simp [e49], by simp [e61, cBks], by simp [e62], by simp, by omega, hnx2 (by simp [k3])⟩⟩
      · rw [hbp2 (by simp [k3])]
        simp -implicitDefEqProofs [e3, e4, e61, e62, e63, d, hcl, hMR, hNo, g2, g3', x0, y0, g4', g5, g6, k1, k3, bin_bne ub4, cSk, cBkr, cBks, cBM, cBrs, cBr, vmove, isNil, vstore, cellsOf?, Ent.wrO, wr]
    | false =>
      rw [k2] at hNo hbp2 hnx2
      by_cases k3 : b.lev = -1
      · rw [hbp2 (by simp [k3])]
        simp -implicitDefEqProofs [e3, e4, e61, e62, e63, d, hcl, hMR, hNo, g2, g3', x0, y0, g4', k1, k3, bin_bne ub4, cSk, cBkr, cBks, cBM, cBrs, cBr, vmove, isNil, vstore, cellsOf?, Ent.wrO, wr]
      · simp -implicitDefEqProofs [e3, e4, e61, e62, e63, d, hcl, hMR, hNo, g2, g3', x0, y0, g4', g5, g6, k1, k3, w_p, bin_bne ub4, cSk, cBkr, cBks, cBM, cBrs, cBr, vmove, isNil, vstore, cellsOf?, Ent.wrO, wr]
        exact ⟨k' - 1, by omega, (hJ _ _).2 ⟨_, p + 1, _, (by first | rfl | (simp [cSk, cBkr, cBks, cBM, cBrs, cBr, hcl]; done) | (simp [cSk, cBkr, cBks, cBM, cBrs, cBr, hcl]; rfl) | (simp [cSk, cBkr, cBks, cBM, cBrs, cBr, hcl]; and_intros <;> rfl)), by simp [e1], by simp [e3], by simp [e4], by simp [e47, cBkr, cBks], by simp [e48], by simp [e49], by simp [e61, cBks], by simp [e62], by simp, by omega, hnx2 (by simp [k3])⟩⟩
  · have k1' : sEq b.src ByteArray.empty = false := by
      cases h : sEq b.src ByteArray.empty with
      | false => rfl
      | true => exact absurd (hse.1 h) k1
    have k1n : ¬ b.src.toList = ByteArray.empty.toList := fun h => k1 (toList_inj.1 h)
    have k1m : ¬ b.src.toList = [] := by simpa using k1n
    rw [k1', Bool.false_and] at hbp2 hnx2
    by_cases k3 : b.lev = -1
    · rw [hbp2 (by simp [k3])]
      simp -implicitDefEqProofs [e3, e4, e61, e62, e63, d, hcl, hMR, g2, g3', x0, y0, g4', k1m, k3, bin_bne ub4, cSk, cBkr, cBks, cBM, cBrs, cBr, vmove, isNil, vstore, cellsOf?, Ent.wrO, wr]
    · simp -implicitDefEqProofs [e3, e4, e61, e62, e63, d, hcl, hMR, g2, g3', x0, y0, g4', g5, g6, k1m, k3, w_p, bin_bne ub4, cSk, cBkr, cBks, cBM, cBrs, cBr, vmove, isNil, vstore, cellsOf?, Ent.wrO, wr]
      exact ⟨k' - 1, by omega, (hJ _ _).2 ⟨_, p + 1, _, (by first | rfl | (simp [cSk, cBkr, cBks, cBM, cBrs, cBr, hcl]; done) | (simp [cSk, cBkr, cBks, cBM, cBrs, cBr, hcl]; rfl) | (simp [cSk, cBkr, cBks, cBM, cBrs, cBr, hcl]; and_intros <;> rfl)), by simp [e1], by simp [e3], by simp [e4], by simp [e47, cBkr, cBks], by simp [e48], by simp [e49], by simp [e61, cBks], by simp [e62], by simp, by omega, hnx2 (by simp [k3])⟩⟩
end Go.Proofs.YtonkhpeahbjmmaaDoorF
end

section
/- Spread sketches: a pair more. -/
set_option maxRecDepth 8192
set_option maxHeartbeats 2000000
namespace Go.Proofs.YtonkhpeahbjmmaaDoorF
open Go Go.Proofs.Vm

theorem bks_all (l : List Bkt) : AllLen (l.map cBk) 4 := by intro x hx; obtain ⟨y, _, rfl⟩ := List.mem_map.1 hx; rfl
theorem bkr_all (l : List (List Bkt)) : AllLen (l.map fun r => [cBks r]) 1 := by intro x hx; obtain ⟨y, _, rfl⟩ := List.mem_map.1 hx; rfl
theorem bks_Clone {r : List Bkt} {H : Hp} (h0 : r ≠ []) (hl : r.length ≤ 100000) : TV.S 30 [.one (.c (.arr (r.map cBk)))] H = some (.one (.sl (H.length + 1) 0 r.length r.length), H ++ [.clo [] false, .clo (r.map cBk) false]) := by
  refine run30 (by simp) (by simp) ?_
  have ha := vappend_eq (P := Tryd.prog) (H := H ++ [.clo [] false, .clo [] false]) (t := 47) (tx := 47) (id := H.length + 1) (n := 0) (l := []) (xs := r.map cBk) (x := .one (.c (.arr (r.map cBk)))) es47 es47 el52
    (by simp) rfl rfl (by simp) (bks_all r) (by simp; omega) (by simp; omega)
  obtain ⟨x, t, rfl⟩ : ∃ h t, r = h :: t := by cases r with | nil => exact absurd rfl h0 | cons h t => exact ⟨h, t, rfl⟩
  simp at ha
  simp [Tryd.f30, vmove, isNil, bin_sln es47, bs_zero es47 el52, ha]
theorem bkr_Clone {rows : List (List Bkt)} {H : Hp} (h0 : rows ≠ []) (hl : rows.length ≤ 100000) : TV.S 27 [.one (.c (cBkr rows))] H = some (.one (.sl (H.length + 1) 0 rows.length rows.length), H ++ [.clo [] false, .clo (rows.map fun r => [cBks r]) false]) := by
  refine run27 (by simp) (by simp) ?_
  have ha := vappend_eq (P := Tryd.prog) (H := H ++ [.clo [] false, .clo [] false]) (t := 23) (tx := 23) (id := H.length + 1) (n := 0) (l := []) (xs := rows.map fun r => [cBks r]) (x := .one (.c (cBkr rows))) es23 es23 el47
    (by simp) rfl rfl (by simp) (bkr_all rows) (by simp; omega) (by simp; omega)
  obtain ⟨x, t, rfl⟩ : ∃ h t, rows = h :: t := by cases rows with | nil => exact absurd rfl h0 | cons h t => exact ⟨h, t, rfl⟩
  simp [cBkr] at ha
  simp [Tryd.f27, cBkr, vmove, isNil, bin_sln es23, bs_zero es23 el47, ha]

/-- A pair comes to a bucket. -/
def addBk (pair src : ByteArray) (lv : Int) (b : Bkt) : Bkt := ⟨addM b.m pair, if b.lev ≤ lv then src else b.src, if b.lev ≤ lv then lv else b.lev⟩
def addRw (s : Int) (src : ByteArray) (f : Bkt → Bkt) (i : Nat) (r : List Bkt) : List Bkt := r.modify (splc s src i r.length).toNat f
def plev (s : Int) (pair : ByteArray) : Int := hlev (hrow s 20) pair 16
def addTo (s : Int) (src : ByteArray) (f : Bkt → Bkt) (k : Nat) (rows : List (List Bkt)) : List (List Bkt) := rows.mapIdx fun i r => if i < k then addRw s src f i r else r
def addS (S : Skt) (src tgt : ByteArray) : Skt := { S with rows := addTo S.s src (addBk (src ++ tgt) src (plev S.s (src ++ tgt))) S.rows.length S.rows }
theorem addTo_len (s : Int) (src : ByteArray) (f : Bkt → Bkt) (k : Nat) (rows : List (List Bkt)) : (addTo s src f k rows).length = rows.length := by simp [addTo]
theorem addTo_at {s : Int} {src : ByteArray} {f : Bkt → Bkt} {k : Nat} {rows : List (List Bkt)} {j : Nat} (h : j < rows.length) (h' : j < (addTo s src f k rows).length) : (addTo s src f k rows)[j] = if j < k then addRw s src f j rows[j] else rows[j] := by simp [addTo]
theorem addRw_len (s : Int) (src : ByteArray) (f : Bkt → Bkt) (i : Nat) (r : List Bkt) : (addRw s src f i r).length = r.length := by simp [addRw]
/-- Where the clone of a row lies. -/
def ixr (j : Nat) : Nat := 4 * j + 8
theorem ixr_get {A B C D E : Ent} {T : Hp} {j : Nat} : (A :: B :: C :: D :: E :: T)[ixr j]? = T[4 * j + 3]? := by
  unfold ixr
  rw [show 4 * j + 8 = 4 * j + 3 + 1 + 1 + 1 + 1 + 1 by omega]
  simp only [List.getElem?_cons_succ]
def rwC (rows : List (List Bkt)) (i : Nat) : List (List Cell) := rows.mapIdx fun j r => if j < i then [.sl (ixr j) 0 r.length r.length] else [.c (cBks r)]
def rwE (rows : List (List Bkt)) (i : Nat) : Ent := if i = 0 then .clo (rows.map fun r => [cBks r]) false else .opn (rwC rows i) false
theorem fz_rw {s : Int} {src : ByteArray} {f : Bkt → Bkt} {rows : List (List Bkt)} {i : Nat} {H : Hp} (h4 : H[4]? = some (rwE rows i)) (hT : ∀ j, ∀ h : j < rows.length, j < i → H[ixr j]? = some (.clo ((addRw s src f j rows[j]).map cBk) false)) : fzc 5 H (.sl 4 0 rows.length rows.length) = some (cBkr (addTo s src f i rows)) := by
  unfold rwE at h4
  by_cases hi : i = 0
  · rw [if_pos hi] at h4
    subst hi
    have : addTo s src f 0 rows = rows := by
      apply List.ext_getElem
      · simp [addTo]
      · intro j h1 h2; simp [addTo]
    rw [this]
    unfold fzc
    simp only [h4, List.length_map, if_true, List.drop_zero]
    rw [List.take_of_length_le (by simp)]
    rfl
  · rw [if_neg hi] at h4
    refine (fz_rows (out := (addTo s src f i rows).map cBks) h4 (by simp [rwC]) (by simp [addTo]) fun j x y hx hy => ?_).trans (by simp [cBkr])
    unfold rwC at hx
    unfold addTo at hy
    rw [List.getElem?_mapIdx] at hx
    rw [List.getElem?_map, List.getElem?_mapIdx] at hy
    cases hj : rows[j]? with
    | none => rw [hj] at hx; simp at hx
    | some r =>
      rw [hj] at hx hy
      have hjl := (List.getElem?_eq_some_iff.1 hj).1
      have hjr : rows[j] = r := (List.getElem?_eq_some_iff.1 hj).2
      by_cases hji : j < i
      · simp [hji] at hx hy
        subst hx hy
        have hh := hT j hjl hji
        rw [hjr] at hh
        refine ⟨_, rfl, ?_⟩
        unfold fzc
        have hl : ((addRw s src f j r).map cBk).length = r.length := by simp [addRw_len]
        simp only [hh, hl, if_true, List.drop_zero]
        rw [List.take_of_length_le (by omega)]
        rfl
      · simp [hji] at hx hy
        subst hx hy
        exact ⟨_, rfl, rfl⟩
theorem wr_bk (f : Bkt → Bkt) (r : List Bkt) (q : Nat) (h : q < r.length) (v : List CV) (hv : v = cBk (f r[q])) : Ent.wrC (r.map cBk) q 0 v = (r.modify q f).map cBk := by
  subst hv
  unfold Ent.wrC
  apply List.ext_getElem?
  intro j
  rw [List.getElem?_modify, List.getElem?_map, List.getElem?_map, List.getElem?_modify]
  by_cases hj : q = j
  · subst hj
    simp [h, cBk, wr]
  · simp [hj]
theorem rwE_set {rows : List (List Bkt)} {i : Nat} (h : i < rows.length) (x : Nat) (hx : x = ixr i) : Ent.opn ((rwC rows i).modify i fun e => e.set 0 (.sl x 0 rows[i].length rows[i].length)) false = rwE rows (i + 1) := by
  subst hx
  unfold rwE
  rw [if_neg (by omega)]
  congr 1
  apply List.ext_getElem?
  intro j
  unfold rwC
  rw [List.getElem?_modify, List.getElem?_mapIdx, List.getElem?_mapIdx]
  by_cases hj : i = j
  · subst hj
    simp [h]
  · cases hr : rows[j]? with
    | none => simp [hj]
    | some r =>
      by_cases hji : j < i
      · have : j < i + 1 := by omega
        simp [hj, hji, this]
      · have : ¬ j < i + 1 := by omega
        simp [hj, hji, this]
theorem rwC_zero (rows : List (List Bkt)) : rows.map (fun r => [Cell.c (cBks r)]) = rwC rows 0 := by
  apply List.ext_getElem?
  intro j
  simp [rwC]
theorem sp_Add_no {S : Skt} {src tgt : ByteArray} (hs0 : 0 ≤ S.s) (hs1 : S.s < 18446744073709551616) (hl : LensS S) (h : sOk S = false ∨ src = ByteArray.empty) : TV.pu 12 [.agg (cSk S), cS src, cS tgt] = some (.agg (cSk S)) := by
  refine run12 (by simp) ?_
  have hR := sp_Right hs0 hs1 hl
  simp only [cSk, cBkr, cBks] at hR
  cases hok : sOk S with
  | false =>
    rw [hok] at hR
    simp -implicitDefEqProofs [Tryd.f12, cSk, cBkr, cBks, hR, vmove, isNil, vstore, cellsOf?, Ent.wrO, wr]
    try simp [qa]
  | true =>
    rw [hok] at hR
    have hs : src = ByteArray.empty := by rcases h with h | h; (rw [hok] at h; cases h); exact h
    simp -implicitDefEqProofs [Tryd.f12, cSk, cBkr, cBks, hR, hs, vmove, isNil, vstore, cellsOf?, Ent.wrO, wr]
    try simp [qa]
theorem sp_Add {S : Skt} {src tgt : ByteArray} (hs : SeedS S) (hl : LensS S) (hok : sOk S = true) (hsrc : src ≠ ByteArray.empty) (hz : src.size + tgt.size ≤ 140737488351232) : TV.pu 12 [.agg (cSk S), cS src, cS tgt] = some (.agg (cSk (addS S src tgt))) := by
  refine run12 (by simp) ?_
  obtain ⟨q1, q2, q3, q4, q5⟩ := sOk_facts hok
  have hR := sp_Right hs.1 hs.2.1 hl
  rw [hok] at hR
  obtain ⟨s, rows⟩ := S
  obtain ⟨s0, s1, s2⟩ := hs
  obtain ⟨l1, l2⟩ := hl
  dsimp only at *
  have hsn : ¬ src.toList = [] := fun h => hsrc (toList_inj.1 (by rw [h]; simp))
  have hpz : (src ++ tgt).size ≤ 140737488351232 := by rw [ByteArray.size_append]; exact hz
  have hadd := fun (H : Hp) (t : TypeId) (x y : Operand) => sbin_add (P := Tryd.prog) (H := H) (t := t) (x := x) (y := y) (u := src) (v := tgt) (by omega)
  have hrw := hash_Row (s := s) (i := 20) s0 s1 (by omega) (by omega)
  have hrr := hrow_range s 20
  have hLv := hash_Level (seed := hrow s 20) (s := src ++ tgt) (most := 16) hrr.1 (by omega) hpz (by omega) (by omega)
  obtain ⟨lv, hlv⟩ : ∃ lv, hlev (hrow s 20) (src ++ tgt) 16 = lv := ⟨_, rfl⟩
  rw [hlv] at hLv
  unfold addS plev
  dsimp only
  rw [hlv]
  obtain ⟨pair, hpair⟩ : ∃ pair, src ++ tgt = pair := ⟨_, rfl⟩
  rw [hpair] at hpz hadd hLv ⊢
  have hr0 : rows ≠ [] := by intro h; rw [h] at q1; simp at q1
  have hC := fun H => bkr_Clone (rows := rows) (H := H) hr0 (by omega)
  simp only [cSk, cBkr, cBks] at hR hC
  simp -implicitDefEqProofs [-fzc, fz_v, fz_arr, Tryd.f12, cSk, cBkr, cBks, hR, hsn, hadd, hrw, hLv, hC, vmove, isNil, vstore, cellsOf?, Ent.wrO, wr]
  obtain ⟨I, hI⟩ : ∃ I : Nat → St → Prop, ∀ k s', I k s' ↔ (∃ e i T, s' = ⟨e, .opn [[.c (.v (.int .u64 s)), .sl 4 0 rows.length rows.length]] false :: .opn [[.c (.v (.int .u64 0)), .sl 2 0 0 0]] false :: .clo [] false :: .clo [] false :: rwE rows i :: T⟩ ∧ e 1 = vS src ∧ e 2 = vS tgt ∧ e 3 = .one (.ptr ⟨0, 0, 0, 1⟩) ∧ e 6 = .one (.ptr ⟨1, 0, 0, 1⟩) ∧ e 7 = vI .i64 lv ∧ e 32 = vI .i64 rows.length ∧ e 33 = vI .i64 (i : Nat) ∧ (i + k = rows.length) ∧ (T.length = 4 * i) ∧ (∀ j, ∀ h : j < rows.length, j < i → T[4 * j + 3]? = some (.clo ((addRw s src (addBk pair src lv) j rows[j]).map cBk) false))) := ⟨_, fun _ _ => Iff.rfl⟩
  refine wpL_ind I ?_ rows.length _ ((hI _ _).2 ⟨_, 0, [], (by first | rfl | (simp [rwE, cBks]; done) | (simp [rwE, cBks]; rfl) | (simp [rwE, cBks]; and_intros <;> rfl)), by simp, by simp, by simp, by simp, by simp, by simp, by simp, by omega, by simp, by omega⟩)
  intro k stI hstI
  obtain ⟨e, i, T, rfl, e1, e2, e3, e6, e7, e32, e33, hk, hTl, hT⟩ := (hI _ _).1 hstI
  have hfz : ∀ (B0 E1 E2 E3 : Ent) M, fzc 5 (B0 :: E1 :: E2 :: E3 :: rwE rows i :: (T ++ M)) (.sl 4 0 rows.length rows.length) = some (cBkr (addTo s src (addBk pair src lv) i rows)) := fun B0 E1 E2 E3 M => by
    refine fz_rw rfl fun j hj hji => ?_
    rw [ixr_get, List.getElem?_append_left (by omega)]
    exact hT j hj hji
  have hfz0 := fun B0 E1 E2 E3 => hfz B0 E1 E2 E3 []
  simp only [List.append_nil] at hfz0
  by_cases c : i < rows.length
  rotate_left
  · obtain rfl : i = rows.length := by omega
    simp [-fzc, e3, e6, e32, e33, vmove, isNil, vstore, cellsOf?, Ent.wrO, wr]
    have hfs := fun B0 E1 E2 E3 => hfz0 B0 E1 E2 E3
    simp [-fzc, fz_v, qa, hfs, cBkr, cBks]
  have w_i : IntKind.i64.wrap ((i : Int) + 1) = ((i + 1 : Nat) : Int) := by rw [w64_id (by omega) (by omega)]; omega
  obtain ⟨b1, b2⟩ := q5 _ (List.getElem_mem c)
  have hPl := sp_place (S := ⟨s, addTo s src (addBk pair src lv) i rows⟩) (src := src) (i := i) s0 s1 (by rw [addTo_len]; omega) (by rw [addTo_len]; exact c) (by rw [addTo_at c, if_neg (Nat.lt_irrefl i)]; omega) (by omega)
  rw [addTo_at c, if_neg (Nat.lt_irrefl i)] at hPl
  simp only [cSk] at hPl
  have hpr := splc_range (s := s) (src := src) (i := i) (n := rows[i].length) (by omega)
  obtain ⟨q, hq⟩ : ∃ q : Nat, splc s src i rows[i].length = (q : Int) := ⟨_, (Int.toNat_of_nonneg hpr.1).symm⟩
  rw [hq] at hPl hpr
  have hqr : q < rows[i].length := by omega
  have hbf := badB_facts (b2 _ (List.getElem_mem hqr))
  obtain ⟨b, hb⟩ : ∃ b, rows[i][q] = b := ⟨_, rfl⟩
  have hcl : cBk rows[i][q] = [.v (.int .u64 b.m.s), cBrs b.m.rows, .v (.string b.src), .v (.int .i64 b.lev)] := by rw [hb]; rfl
  have hbs := s2 _ (List.getElem_mem c) _ (List.getElem_mem hqr)
  rw [hb] at hbf hbs
  have hA := bm_Add (m := b.m) (t := pair) hbs.1 hbs.2 hbf.1 (by omega)
  simp only [cBM, cBrs, cBr] at hA
  have hri : rows[i] ≠ [] := by intro h; rw [h] at hqr; simp at hqr
  have hCb := fun H => bks_Clone (r := rows[i]) (H := H) hri (by omega)
  have a0 : ∀ M : Hp, (T ++ M)[4 * i]? = M[0]? := fun M => by rw [List.getElem?_append_right (by omega), hTl, Nat.sub_self]
  have aq : ∀ (M : Hp) (q : Nat), (T ++ M)[4 * i + q]? = M[q]? := fun M q => by rw [List.getElem?_append_right (by omega), hTl, Nat.add_sub_cancel_left]
  have u0 : ∀ (M : Hp) x, (T ++ M).set (4 * i) x = T ++ M.set 0 x := fun M x => by rw [List.set_append_right _ _ (by omega), hTl, Nat.sub_self]
  have uq : ∀ (M : Hp) (q : Nat) x, (T ++ M).set (4 * i + q) x = T ++ M.set q x := fun M q x => by rw [List.set_append_right _ _ (by omega), hTl, Nat.add_sub_cancel_left]
  have hTn : ∀ (B : Ent) (v : List CV), v = cBk (addBk pair src lv rows[i][q]) → ∀ j, ∀ h : j < rows.length, j < i + 1 → (T ++ [B, .clo [] false, .clo [] false, .clo (Ent.wrC (rows[i].map cBk) q 0 v) false])[4 * j + 3]? = some (.clo ((addRw s src (addBk pair src lv) j rows[j]).map cBk) false) := fun B v hv j hj hj2 => by
    by_cases hji : j = i
    · subst hji
      rw [aq, wr_bk _ _ _ hqr v hv]
      unfold addRw
      rw [hq]
      rfl
    · rw [List.getElem?_append_left (by omega)]
      exact hT j hj (by omega)
  have hix : 4 * i + 2 + 1 + 1 + 1 + 1 + 1 + 1 = ixr i := by unfold ixr; omega
  have hE1 := rwE_set c _ hix
  rw [hb] at hTn
  by_cases hi0 : i = 0
  · have hrE : rwE rows i = .clo (rows.map fun r => [cBks r]) false := by rw [rwE, if_pos hi0]
    have hz := rwC_zero rows
    rw [← hi0] at hz
    rw [← hz] at hE1
    have hmm : rows.map ((fun e => List.map Cell.c e) ∘ fun r => [CV.arr (r.map cBk)]) = rows.map (fun r => [Cell.c (.arr (r.map cBk))]) := rfl
    simp only [hrE, cBks] at hfz hfz0 hE1
    by_cases hlt : b.lev ≤ lv
    · simp -implicitDefEqProofs [-fzc, fz_v, fz_arr, e1, e2, e3, e7, e32, e33, c, hrE, hfz0, hPl, hqr, hcl, cBks, cBrs, cBr, hadd, hA, hCb, hTl, u0, uq, hlt, w_i, vmove, isNil, vstore, cellsOf?, Ent.wrO, wr, hasRef]
      rw [hmm, hE1]
      exact ⟨k - 1, by omega, (hI _ _).2 ⟨_, i + 1, _, (by first | rfl | (simp [hTl]; done) | (simp [hTl]; rfl) | (simp [hTl]; and_intros <;> rfl)), by simp [e1], by simp [e2], by simp [e3], by simp [e6], by simp [e7], by simp [e32], by simp, by omega, by simp [hTl]; omega, hTn _ _ (by simp [addBk, hlt, cBk, cBrs, cBr])⟩⟩
    · simp -implicitDefEqProofs [-fzc, fz_v, fz_arr, e1, e2, e3, e7, e32, e33, c, hrE, hfz0, hPl, hqr, hcl, cBks, cBrs, cBr, hadd, hA, hCb, hTl, u0, uq, hlt, w_i, vmove, isNil, vstore, cellsOf?, Ent.wrO, wr, hasRef]
      rw [hmm, hE1]
      exact ⟨k - 1, by omega, (hI _ _).2 ⟨_, i + 1, _, (by first | rfl | (simp [hTl]; done) | (simp [hTl]; rfl) | (simp [hTl]; and_intros <;> rfl)), by simp [e1], by simp [e2], by simp [e3], by simp [e6], by simp [e7], by simp [e32], by simp, by omega, by simp [hTl]; omega, hTn _ _ (by simp [addBk, hlt, cBk, cBrs, cBr])⟩⟩
  have hrE : rwE rows i = .opn (rwC rows i) false := by rw [rwE, if_neg hi0]
  have hrCl : (rwC rows i).length = rows.length := by simp [rwC]
  have hrCi : ∀ h : i < (rwC rows i).length, (rwC rows i)[i] = [.c (cBks rows[i])] := fun h => by simp [rwC]
  simp only [hrE, cBks] at hfz hfz0 hrCi
  by_cases hlt : b.lev ≤ lv
  · simp -implicitDefEqProofs [-fzc, fz_v, fz_arr, e1, e2, e3, e7, e32, e33, c, hrE, hrCl, hrCi, hfz0, hPl, hqr, hcl, cBrs, cBr, hadd, hA, hCb, hTl, u0, uq, hlt, w_i, vmove, isNil, vstore, cellsOf?, Ent.wrO, wr, hasRef]
    rw [hE1]
    exact ⟨k - 1, by omega, (hI _ _).2 ⟨_, i + 1, _, (by first | rfl | (simp [hTl]; done) | (simp [hTl]; rfl) | (simp [hTl]; and_intros <;> rfl)), by simp [e1], by simp [e2], by simp [e3], by simp [e6], by simp [e7], by simp [e32], by simp, by omega, by simp [hTl]; omega, hTn _ _ (by simp [addBk, hlt, cBk, cBrs, cBr])⟩⟩
  · simp -implicitDefEqProofs [-fzc, fz_v, fz_arr, e1, e2, e3, e7, e32, e33, c, hrE, hrCl, hrCi, hfz0, hPl, hqr, hcl, cBrs, cBr, hadd, hA, hCb, hTl, u0, uq, hlt, w_i, vmove, isNil, vstore, cellsOf?, Ent.wrO, wr, hasRef]
    rw [hE1]
    exact ⟨k - 1, by omega, (hI _ _).2 ⟨_, i + 1, _, (by first | rfl | (simp [hTl]; done) | (simp [hTl]; rfl) | (simp [hTl]; and_intros <;> rfl)), by simp [e1], by simp [e2], by simp [e3], by simp [e6], by simp [e7], by simp [e32], by simp, by omega, by simp [hTl]; omega, hTn _ _ (by simp [addBk, hlt, cBk, cBrs, cBr])⟩⟩
end Go.Proofs.YtonkhpeahbjmmaaDoorF
end

section
/- Spread sketches: the estimate of a source. -/
set_option maxRecDepth 8192
set_option maxHeartbeats 1000000
namespace Go.Proofs.YtonkhpeahbjmmaaDoorF
open Go Go.Proofs.Vm

def estA (S : Skt) (src : ByteArray) (i : Nat) : Int := match S.rows[i]? with
  | some r => match r[(splc S.s src i r.length).toNat]? with
    | some b => estM b.m.rows
    | none => 0
  | none => 0
/-- The least of the rows' estimates, from one on. -/
def minA (S : Skt) (src : ByteArray) (acc : Int) (k : Nat) : Int := (List.range k).foldl (fun a i => min a (estA S src i)) acc
def estB (S : Skt) (src : ByteArray) : Int := if sOk S then minA S src (estA S src 0) S.rows.length else 0
theorem minA_succ (S : Skt) (src : ByteArray) (acc : Int) (k : Nat) : minA S src acc (k + 1) = min (minA S src acc k) (estA S src k) := by
  unfold minA
  rw [List.range_succ, List.foldl_append]
  rfl
theorem sp_Estimate {S : Skt} {src : ByteArray} (hs : SeedS S) (hl : LensS S) (hz : src.size ≤ 140737488351232) : TV.pu 13 [.agg (cSk S), cS src] = some (cI .i64 (estB S src)) := by
  refine run13 (by simp) ?_
  have hR := sp_Right hs.1 hs.2.1 hl
  unfold estB
  by_cases hok : sOk S = true
  rotate_left
  · have hok : sOk S = false := by simpa using hok
    rw [hok] at hR ⊢
    simp only [cSk, cBkr, cBks] at hR
    simp -implicitDefEqProofs [Tryd.f13, cSk, cBkr, cBks, hR]
  rw [hok] at hR ⊢
  rw [if_pos rfl]
  obtain ⟨q1, q2, q3, q4, q5⟩ := sOk_facts hok
  have hPl : ∀ (i : Nat) (h : i < S.rows.length), TV.pu 28 [.agg (cSk S), cS src, cI .i64 i] = some (cI .i64 (splc S.s src i S.rows[i].length)) := fun i h => sp_place hs.1 hs.2.1 hl.1 h (hl.2 _ (List.getElem_mem h)).1 hz
  have hAt : ∀ (i : Nat) (h : i < S.rows.length), ∃ (q : Nat) (hq : q < S.rows[i].length), splc S.s src i S.rows[i].length = (q : Int) ∧ estA S src i = estM S.rows[i][q].m.rows ∧ TV.pu 31 [.agg (cBM S.rows[i][q].m)] = some (cI .i64 (estA S src i)) := fun i h => by
    have hb := q5 _ (List.getElem_mem h)
    have hpr := splc_range (s := S.s) (src := src) (i := i) (n := S.rows[i].length) (by omega)
    obtain ⟨q, hq⟩ : ∃ q : Nat, splc S.s src i S.rows[i].length = (q : Int) := ⟨_, (Int.toNat_of_nonneg hpr.1).symm⟩
    rw [hq] at hpr
    have hql : q < S.rows[i].length := by omega
    have he : estA S src i = estM S.rows[i][q].m.rows := by
      unfold estA
      rw [List.getElem?_eq_getElem h]
      dsimp only
      rw [hq, Int.toNat_natCast, List.getElem?_eq_getElem hql]
    refine ⟨q, hql, hq, he, ?_⟩
    rw [he]
    exact bm_Estimate (badB_facts (hb.2 _ (List.getElem_mem hql))).1
  obtain ⟨s, rows⟩ := S
  dsimp only at *
  have h00 : 0 < rows.length := by omega
  obtain ⟨p, hp, hpe, he, hE⟩ := hAt 0 h00
  have hP0 := hPl 0 h00
  rw [hpe] at hP0
  simp only [Int.cast_ofNat_Int] at hP0
  obtain ⟨b, hb⟩ : ∃ b, rows[0][p] = b := ⟨_, rfl⟩
  have hcl : cBk rows[0][p] = [.v (.int .u64 b.m.s), cBrs b.m.rows, .v (.string b.src), .v (.int .i64 b.lev)] := by rw [hb]; rfl
  rw [hb] at hE
  simp only [cSk, cBkr, cBks, cBM, cBrs, cBr] at hR hP0 hE
  simp -implicitDefEqProofs [Tryd.f13, cSk, cBkr, cBks, cBrs, cBr, hR, hP0, hE, h00, hp, hcl]
  obtain ⟨I, hI⟩ : ∃ I : Nat → St → Prop, ∀ k s', I k s' ↔ (∃ e i L, s' = ⟨e, .opn [(cSk ⟨s, rows⟩).map .c] false :: L⟩ ∧ e 1 = vS src ∧ e 2 = .one (.ptr ⟨0, 0, 0, 1⟩) ∧ e 5 = vI .i64 (minA ⟨s, rows⟩ src (estA ⟨s, rows⟩ src 0) i) ∧ e 23 = vI .i64 rows.length ∧ e 24 = vI .i64 (i : Nat) ∧ (i + k = rows.length)) := ⟨_, fun _ _ => Iff.rfl⟩
  refine wpL_ind I ?_ rows.length _ ((hI _ _).2 ⟨_, 0, _, (by first | rfl | (simp [cSk, cBkr, cBks, minA]; done) | (simp [cSk, cBkr, cBks, minA]; rfl) | (simp [cSk, cBkr, cBks, minA]; and_intros <;> rfl)), by simp, by simp, by simp [minA], by simp, by simp, by omega⟩)
  intro k stI hstI
  obtain ⟨e, i, L, rfl, e1, e2, e5, e23, e24, hk⟩ := (hI _ _).1 hstI
  by_cases c : i < rows.length
  rotate_left
  · obtain rfl : i = rows.length := by omega
    simp -implicitDefEqProofs [e5, e23, e24, cSk, cBkr, cBks]
  have w_i : IntKind.i64.wrap ((i : Int) + 1) = ((i + 1 : Nat) : Int) := by rw [w64_id (by omega) (by omega)]; omega
  obtain ⟨p2, hp2, hpe2, he2, hE2⟩ := hAt i c
  have hP2 := hPl i c
  rw [hpe2] at hP2
  obtain ⟨b2, hb2⟩ : ∃ b, rows[i][p2] = b := ⟨_, rfl⟩
  have hcl2 : cBk rows[i][p2] = [.v (.int .u64 b2.m.s), cBrs b2.m.rows, .v (.string b2.src), .v (.int .i64 b2.lev)] := by rw [hb2]; rfl
  have hms : minA ⟨s, rows⟩ src (estA ⟨s, rows⟩ src 0) (i + 1) = if estA ⟨s, rows⟩ src i < minA ⟨s, rows⟩ src (estA ⟨s, rows⟩ src 0) i then estA ⟨s, rows⟩ src i else minA ⟨s, rows⟩ src (estA ⟨s, rows⟩ src 0) i := by
    rw [minA_succ]
    split <;> omega
  rw [hb2] at hE2
  simp only [cSk, cBkr, cBks, cBM, cBrs, cBr] at hP2 hE2
  simp -implicitDefEqProofs [e1, e2, e5, e23, e24, c, cSk, cBkr, cBks, cBrs, cBr, hP2, hE2, hp2, hcl2, w_i]
  exact ⟨k - 1, by omega, (hI _ _).2 ⟨_, i + 1, _, (by first | rfl | (simp [cSk, cBkr, cBks, hms]; done) | (simp [cSk, cBkr, cBks, hms]; rfl) | (simp [cSk, cBkr, cBks, hms]; and_intros <;> rfl)), by simp [e1], by simp [e2], by simp [hms], by simp [e23], by simp, by omega⟩⟩
end Go.Proofs.YtonkhpeahbjmmaaDoorF
end
