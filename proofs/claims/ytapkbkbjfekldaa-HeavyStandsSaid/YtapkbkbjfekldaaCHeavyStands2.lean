/- HeavyStands: items stand by falling counts, of one count by rising keys, each key once, and the last one is the last of the list, for every room and every list of items. -/
import Derived.Test.YtapkbkbjfekldaaCHeavyStands1
import Derived.Deep.Slices
import Derived.ChangeArms
import Derived.ChangeSame
import Derived.SizedLaws
import Derived.WideShapes
import Derived.WalkKit
import Derived.ProofKit
import Derived.OpenShut
import Derived.ShutString
import Derived.ChangeOld
import Derived.Below
import Derived.Laws.BitsAllLaws
import Derived.Shelf.Small.Strs
import Derived.Shelf.Small.Wraps
import Derived.Shelf.Sort.Plain
import Derived.Shelf.Slices.In.SortNone
import Derived.Ground.Names2Prog
import Derived.Shelf.SlSortCmp.WholeK
import Derived.Ground.SlsfProg
import Derived.Test.YtapkbkbjfekldaaProg
import Derived.Shelf.SlSortCmp.NoneTotal
import Derived.Test.YtapkbkbjfekldaaRows
section
/- A law's arguments, read as data, are closed values; and what a law tells of them stands in the statement's form. -/
namespace Go.Proofs.Vm
open Go Go.RowKit Go.ChangeShapes Go.WideShapes

def All (w : World) : Nat → Prop := fun b => b < w.heap.size

/-- Whatever reads as data of type T is so many closed cells, that are good. -/
def Opens (P : Program) (T : TypeId) (sz : Nat) (good : List CV → Prop) : Prop :=
  ∀ (H : Type) (enc : TypeId × Value → H) (W : World) (spare : Nat → Bool) (held : Bool) (fuel : Nat) (cs : List Value) (x : DataW H × List MemPlace),
    DataW.trod enc P W 0 spare held fuel T cs = some x → (∀ q ∈ DataW.weights P T x.1, q ≤ 140737488351232) → ∃ l : List CV, RKs (All W) W l cs ∧ l.length = sz ∧ good l

variable {P : Program}

theorem rks_one {I : Nat → Prop} {w : World} {x : CV} {v : Value} (h : RC I w x v) : RKs I w [x] [v] := by
  refine ⟨rfl, fun j y z hy hz => ?_⟩
  cases j with
  | zero => cases hy; cases hz; exact h
  | succ j => simp at hy
theorem rks_append {I : Nat → Prop} {w : World} {l m : List CV} {vs us : List Value} (h : RKs I w l vs) (k : RKs I w m us) : RKs I w (l ++ m) (vs ++ us) := by
  refine ⟨by simp [h.1, k.1], fun j x y hx hy => ?_⟩
  by_cases hj : j < l.length
  · rw [List.getElem?_append_left hj] at hx
    rw [List.getElem?_append_left (by rw [← h.1]; exact hj)] at hy
    exact h.2 j x y hx hy
  · rw [List.getElem?_append_right (by omega)] at hx
    rw [List.getElem?_append_right (by rw [← h.1]; omega), ← h.1] at hy
    exact k.2 _ x y hx hy

def isI (k : IntKind) (l : List CV) : Prop := ∃ n, l = [.v (.int k n)] ∧ (Lit.int k n).wf = true
def isB (l : List CV) : Prop := ∃ b, l = [.v (.bool b)]
def isS (l : List CV) : Prop := ∃ s : ByteArray, l = [.v (.string s)] ∧ s.size ≤ 140737488351232
def isL (sz bytes : Nat) (good : List CV → Prop) (l : List CV) : Prop := ∃ L : List (List CV), l = [.arr L] ∧ (∀ e ∈ L, e.length = sz ∧ good e) ∧ L.length * bytes ≤ 140737488351232
def isP (good good' : List CV → Prop) (l : List CV) : Prop := ∃ a b, l = a ++ b ∧ good a ∧ good' b

theorem opens_int {T : TypeId} {k : IntKind} (ht : P.underlying T = some (.int k)) : Opens P T 1 (isI k) := by
  intro H enc W spare held fuel cs x h _
  obtain ⟨n, rfl, _, hw⟩ := DataW.trod_int ht h
  exact ⟨_, rks_one (.v _ rfl), rfl, n, rfl, hw⟩
theorem opens_bool {T : TypeId} (ht : P.underlying T = some .bool) : Opens P T 1 isB := by
  intro H enc W spare held fuel cs x h _
  obtain ⟨n, rfl, _⟩ := DataW.trod_bool ht h
  exact ⟨_, rks_one (.v _ rfl), rfl, n, rfl⟩
theorem opens_string {T : TypeId} (ht : P.underlying T = some .string) : Opens P T 1 isS := by
  intro H enc W spare held fuel cs x h hq
  obtain ⟨s, rfl, rfl, _⟩ := DataW.trod_string ht h
  have h1 := hq s.data.toList.length (by simp [DataW.weights])
  rw [Array.length_toList] at h1
  exact ⟨_, rks_one (.v _ rfl), rfl, s, rfl, h1⟩
theorem cells_at {W : World} {a : Addr} {n : Nat} {cs : List Value} (h : W.cells? 0 a n = some cs) : cs.length = n ∧ ∀ i u, cs[i]? = some u → W.cell? (a.add i) = some u := by
  unfold World.cells? at h
  rw [if_pos (Nat.zero_le _)] at h
  have hl : cs.length = n := by have := mapM_some_length h; simpa using this
  refine ⟨hl, fun i u hu => ?_⟩
  have hi : i < n := by have := (List.getElem?_eq_some_iff.1 hu).1; omega
  have h1 := mapM_some_get h i i (by simp [hi])
  rw [h1, hu]
theorem weights_all {H : Type} {e : TypeId} {l : List (DataW H)} {d : DataW H} (hd : d ∈ l) : ∀ q ∈ DataW.weights P e d, q ∈ DataW.weightsAll P e l := by
  induction l with
  | nil => cases hd
  | cons y t ih =>
    intro q hq
    simp only [DataW.weightsAll, List.mem_append]
    rcases List.mem_cons.1 hd with rfl | h
    · exact .inl hq
    · exact .inr (ih h q hq)
theorem opens_slice {T e : TypeId} {sz bytes : Nat} {good : List CV → Prop} (ht : P.underlying T = some (.slice e)) (hc : P.cellsOf e = sz) (hz : 0 < sz) (hb : P.bytesOf e = bytes) (he : Opens P e sz good) : Opens P T 1 (isL sz bytes good) := by
  intro H enc W spare held fuel cs x h hq
  rcases Go.Deep.open_slice ht h with ⟨rfl, rfl⟩ | ⟨a, len, cap, m, n, D, Pl, rfl, _, hlc, hcap, hm, rfl, hel⟩
  · refine ⟨[.arr []], rks_one (.arr [] none 0 0 (fun _ _ => .bool false) (Nat.le_refl _) (by simp) (by simp) (by simp)), rfl, [], rfl, by simp, by simp⟩
  · have hlm : len ≤ m := by rw [hm]; split <;> omega
    simp only [DataW.weights, ht, List.mem_cons, List.mem_append] at hq
    obtain ⟨F, hF⟩ := Go.Deep.choose_lt (α := List CV × List Value) (n := len) (p := fun i y => W.cells? 0 (a.add (i * P.cellsOf e)) (P.cellsOf e) = some y.2 ∧ RKs (All W) W y.1 y.2 ∧ y.1.length = sz ∧ good y.1) (fun i hi => by
      obtain ⟨cs', h1, h2⟩ := hel i (by omega)
      obtain ⟨l, hl, hs, hg⟩ := he H enc W spare held n cs' (D i, Pl i) h2 (fun q hq1 => hq q (.inr (.inl (weights_all (List.mem_map.2 ⟨i, List.mem_range.2 hi, rfl⟩) q hq1))))
      exact ⟨(l, cs'), h1, hl, hs, hg⟩)
    have hw : len * bytes ≤ 140737488351232 := by
      have h1 := hq _ (.inl rfl)
      rw [hb] at h1
      refine Nat.le_trans (Nat.mul_le_mul_right _ ?_) h1
      simp
    have hlen : ((List.range len).map fun i => (F i).1).length = len := by simp
    have get : ∀ (i : Nat) e, ((List.range len).map fun i => (F i).1)[i]? = some e → i < len ∧ e = (F i).1 := by
      intro i e hi
      have hl := (List.getElem?_eq_some_iff.1 hi).1
      rw [hlen] at hl
      rw [List.getElem?_map, List.getElem?_range hl] at hi
      cases hi
      exact ⟨hl, rfl⟩
    have cell : ∀ i j, i < len → j < sz → W.cell? ((a.add (i * sz)).add j) = some ((F i).2.getD j (.bool false)) := by
      intro i j hi hj
      obtain ⟨h1, h2, h3, _⟩ := hF i hi
      obtain ⟨k1, k2⟩ := cells_at h1
      rw [hc] at k1 k2
      refine k2 j _ ?_
      rw [List.getD_eq_getElem?_getD, List.getElem?_eq_getElem (by omega)]
      rfl
    have key : RC (All W) W (.arr ((List.range len).map fun i => (F i).1)) (.slice (some a) ((List.range len).map fun i => (F i).1).length cap) := by
      refine .arr _ (some a) cap sz (fun i j => (F i).2.getD j (.bool false)) (by rw [hlen]; exact hlc) (fun e he => ?_) (fun hn => ?_) (fun i j e x hi hx => ?_)
      · obtain ⟨i, hi⟩ := List.getElem?_of_mem he
        obtain ⟨hl, rfl⟩ := get i e hi
        exact (hF i hl).2.2.1
      · have hp : 0 < len := by
          rcases Nat.eq_zero_or_pos len with h0 | h0
          · subst h0; exact absurd rfl hn
          · exact h0
        have c0 := cell 0 0 hp hz
        have hadd : ∀ k, a.spot = none → a.add k = ⟨a.block, a.off + k, none⟩ := fun k hs => by
          obtain ⟨b, o, s⟩ := a
          cases hs
          simp [Addr.add]
        have hs : a.spot = none := by
          simp only [Nat.zero_mul] at c0
          rw [show (a.add 0).add 0 = a by simp [Addr.add]] at c0
          unfold World.cell? at c0
          split at c0
          · split at c0
            · cases c0
            · rename_i h0; simpa using h0
          · cases c0
        refine ⟨a.block, a.off, by obtain ⟨b, o, s⟩ := a; cases hs; rfl, ?_, fun i j hi hj => ?_⟩
        · simp only [Nat.zero_mul] at c0
          rw [show (a.add 0).add 0 = a by simp [Addr.add]] at c0
          show a.block < W.heap.size
          unfold World.cell? at c0
          rcases Nat.lt_or_ge a.block W.heap.size with h0 | h0
          · exact h0
          · rw [Array.getElem?_eq_none h0] at c0; cases c0
        · have := cell i j (by rw [hlen] at hi; exact hi) hj
          rw [Addr.add_add, hadd _ hs] at this
          rw [← this]
      · obtain ⟨hl, rfl⟩ := get i e hi
        obtain ⟨h1, h2, h3, _⟩ := hF i hl
        have hj : j < (F i).1.length := (List.getElem?_eq_some_iff.1 hx).1
        have hj2 : j < (F i).2.length := by rw [← h2.1]; exact hj
        refine h2.2 j x _ hx ?_
        rw [List.getD_eq_getElem?_getD, List.getElem?_eq_getElem hj2]
        rfl
    rw [hlen] at key
    refine ⟨_, rks_one key, rfl, _, rfl, fun e he => ?_, by rw [hlen]; exact hw⟩
    obtain ⟨i, hi⟩ := List.getElem?_of_mem he
    obtain ⟨hl, rfl⟩ := get i e hi
    exact (hF i hl).2.2
/-- The fields of a struct, from a place on. -/
def OpensAt (P : Program) (fs : List Field) (o sz : Nat) (good : List CV → Prop) : Prop :=
  ∀ (H : Type) (enc : TypeId × Value → H) (W : World) (spare : Nat → Bool) (held : Bool) (n : Nat) (cs : List Value), cs.length = o + sz →
    (∀ f ∈ fs, ∃ y : DataW H × List MemPlace, DataW.trod enc P W 0 spare held n f.type ((cs.drop f.offset).take (P.cellsOf f.type)) = some y ∧ ∀ q ∈ DataW.weights P f.type y.1, q ≤ 140737488351232) →
    ∃ l : List CV, RKs (All W) W l (cs.drop o) ∧ l.length = sz ∧ good l
theorem at_one {f : Field} {o sz : Nat} {good : List CV → Prop} (ho : f.offset = o) (hc : P.cellsOf f.type = sz) (hf : Opens P f.type sz good) : OpensAt P [f] o sz good := by
  intro H enc W spare held n cs hl h
  obtain ⟨y, hy, hq⟩ := h f List.mem_cons_self
  obtain ⟨a, hK, hg⟩ := hf H enc W spare held n _ y hy hq
  rw [ho, hc, List.take_of_length_le (by rw [List.length_drop]; omega)] at hK
  exact ⟨a, hK, hg⟩
theorem at_cons {f : Field} {fs : List Field} {o sz sz' : Nat} {good good' : List CV → Prop} (ho : f.offset = o) (hc : P.cellsOf f.type = sz) (hf : Opens P f.type sz good) (hfs : OpensAt P fs (o + sz) sz' good') :
    OpensAt P (f :: fs) o (sz + sz') (isP good good') := by
  intro H enc W spare held n cs hl h
  obtain ⟨y, hy, hq⟩ := h f List.mem_cons_self
  obtain ⟨a, hK, hs, hg⟩ := hf H enc W spare held n _ y hy hq
  obtain ⟨b, hK', hs', hg'⟩ := hfs H enc W spare held n cs (by rw [hl]; omega) (fun f' hf' => h f' (List.mem_cons_of_mem _ hf'))
  rw [ho, hc] at hK
  refine ⟨a ++ b, ?_, by simp [hs, hs'], a, b, rfl, hg, hg'⟩
  have := rks_append hK hK'
  rwa [← List.drop_drop, List.take_append_drop] at this
theorem opens_struct {T : TypeId} {fs : Array Field} {sz : Nat} {good : List CV → Prop} (ht : P.underlying T = some (.struct fs)) (hc : P.cellsOf T = sz) (hf : OpensAt P fs.toList 0 sz good) : Opens P T sz good := by
  intro H enc W spare held fuel cs x h hq
  obtain ⟨xs, n, _, rfl, hl, hlen, hget⟩ := DataW.trod_struct ht h
  obtain ⟨a, hK, hg⟩ := hf H enc W spare held n cs (by rw [hl, hc, Nat.zero_add]) (fun f hfm => by
    obtain ⟨i, hi, rfl⟩ := List.getElem_of_mem hfm
    have hi' : i < fs.size := by simpa using hi
    have h1 := hget i fs[i] (by simp [hi'])
    have hi2 : i < xs.length := by omega
    refine ⟨xs[i], by rw [← List.getElem?_eq_getElem hi2, ← h1]; simp, fun q hq1 => hq q ?_⟩
    simp only [DataW.weights, ht]
    refine DataW.weights_mem_each (j := i) (t := fs[i].type) (d := xs[i].1) ?_ ?_ q (by simpa using hq1)
    · simp [hi']
    · simp [hi2])
  exact ⟨a, by simpa using hK, hg⟩

/-- An argument of type T is a closed value that is good. -/
def OpA (P : Program) (T : TypeId) (good : CA → Prop) : Prop :=
  ∀ (H : Type) (enc : TypeId × Value → H) (W : World) (base : Nat) (v : Value) (d : DataW H) (ps : List MemPlace), DataW.Trod enc P W 0 (fun _ => true) true T v d ps → Value.okWide P W .any base T v → (∀ q ∈ DataW.weights P T d, q ≤ 140737488351232) →
    ∃ a : CA, RK (All W) W a v ∧ good a

theorem opA_one {T : TypeId} {good : List CV → Prop} (hn : ∀ fs, P.underlying T ≠ some (.struct fs)) (hn2 : ∀ n e, P.underlying T ≠ some (.array n e)) (h : Opens P T 1 good) : OpA P T (fun a => ∃ x, a = .one x ∧ good [x]) := by
  intro H enc W base v d ps ⟨fuel, hf⟩ hok hq
  obtain ⟨l, hl, hs, hg⟩ := h H enc W _ _ fuel _ _ hf hq
  match l, hs with
  | [x], _ =>
    refine ⟨.one x, ?_, x, rfl, hg⟩
    have hl1 : v.cells.toList.length = 1 := by rw [← hl.1]; rfl
    have hv : v.cells = #[v] := by
      unfold Value.okWide at hok
      split at hok
      · rename_i fs h0; exact absurd h0 (hn fs)
      · rename_i n e h0; exact absurd h0 (hn2 _ _)
      · unfold Cell.okWide Cell.ok at hok
        cases v <;> first | rfl | (exfalso; revert hok; split <;> simp_all)
    rw [hv] at hl
    exact hl.2 0 x v rfl rfl
theorem opA_agg {T : TypeId} {fs : Array Field} {sz : Nat} {good : List CV → Prop} (ht : P.underlying T = some (.struct fs)) (h : Opens P T sz good) : OpA P T (fun a => ∃ l, a = .agg l ∧ l.length = sz ∧ good l) := by
  intro H enc W base v d ps ⟨fuel, hf⟩ hok hq
  obtain ⟨l, hl, hs, hg⟩ := h H enc W _ _ fuel _ _ hf hq
  refine ⟨.agg l, ?_, l, rfl, hs, hg⟩
  obtain ⟨cs, rfl, _⟩ := okWide_struct ht hok
  exact ⟨cs.toList, by simp, hl⟩

/-- The arguments of a function. -/
def OpAll (P : Program) (ts : List TypeId) (good : List CA → Prop) : Prop :=
  ∀ (H : Type) (enc : TypeId × Value → H) (W : World) (base : Nat) (vs : List Value) (ds : List (DataW H)) (ps : List MemPlace), DataW.TrodAll enc P W 0 (fun _ => true) true ts vs ds ps →
    (∀ (j : Nat) t v, ts[j]? = some t → vs[j]? = some v → Value.okWide P W .any base t v) → (∀ (j : Nat) t d, ts[j]? = some t → ds[j]? = some d → ∀ q ∈ DataW.weights P t d, q ≤ 140737488351232) →
    ∃ l : List CA, RKL (All W) W l vs ∧ good l
theorem opAll_nil : OpAll P [] (fun l => l = []) := by
  intro H enc W base vs ds ps h _ _
  obtain ⟨rfl, _, _⟩ := trodAll_nil h
  exact ⟨[], ⟨rfl, fun j x y hx => by simp at hx⟩, rfl⟩
theorem opAll_cons {T : TypeId} {ts : List TypeId} {g : CA → Prop} {gs : List CA → Prop} (h : OpA P T g) (hs : OpAll P ts gs) : OpAll P (T :: ts) (fun l => ∃ a r, l = a :: r ∧ g a ∧ gs r) := by
  intro H enc W base vs ds ps ht hok hq
  obtain ⟨v, vs, d, ds, p, q, rfl, rfl, rfl, h0, r0⟩ := trodAll_cons ht
  obtain ⟨a, hK, hg⟩ := h H enc W base v d p h0 (hok 0 T v rfl rfl) (hq 0 T d rfl rfl)
  obtain ⟨l, hL, hgs⟩ := hs H enc W base vs ds q r0 (fun j t v h1 h2 => hok (j + 1) t v h1 h2) (fun j t v h1 h2 => hq (j + 1) t v h1 h2)
  refine ⟨a :: l, ⟨by simp [hL.1], fun j x y hx hy => ?_⟩, a, l, rfl, hg, hgs⟩
  cases j with
  | zero => cases hx; cases hy; exact hK
  | succ j => exact hL.2 j x y hx hy

/-- Old memory reads as it did. -/
theorem trodAll_stays {H : Type} {enc : TypeId × Value → H} (hl : laidOutB P = true) {W W' : World} (hb : ∀ b, b < W.heap.size → W'.heap[b]? = W.heap[b]?) :
    ∀ {ts : List TypeId} {vs : List Value} {ds : List (DataW H)} {ps : List MemPlace}, ts.all (fun t => P.readableRec t && decide (t < P.types.size)) = true → DataW.TrodAll enc P W 0 (fun _ => true) true ts vs ds ps →
      DataW.TrodAll enc P W' 0 (fun b => decide (b < W.heap.size)) true ts vs ds ps
  | [], vs, ds, ps, _, h => by
    obtain ⟨rfl, rfl, rfl⟩ := trodAll_nil h
    exact trodAll_mk0
  | t :: ts, vs, ds, ps, hr, h => by
    obtain ⟨v, vs, d, ds, p, q, rfl, rfl, rfl, h0, r0⟩ := trodAll_cons h
    simp only [List.all_cons, Bool.and_eq_true, decide_eq_true_eq] at hr
    have lt0 : ∀ x ∈ p, x.block < W.heap.size := by obtain ⟨m, hm⟩ := h0; exact DataW.trod_lt m _ _ _ hm
    refine trodAll_cons_mk (WideElems.Trod_stays hl hr.1.1 hr.1.2 h0 (fun x hx => ?_) (fun x hx => by simpa using lt0 x hx)) (trodAll_stays hl hb hr.2 r0)
    have hlt := lt0 x hx
    exact (Below.same (W := W) (w' := { W with heap := W'.heap }) ⟨rfl, rfl, rfl, by
      rcases Nat.lt_or_ge W'.heap.size W.heap.size with h1 | h1
      · have := hb W'.heap.size h1
        rw [Array.getElem?_eq_none (Nat.le_refl _), Array.getElem?_eq_getElem h1] at this
        cases this
      · exact h1, hb⟩ hlt : W.sameAt { W with heap := W'.heap } x)

theorem kept_of {W W' : World} (hk : Stl W W') (hb : ∀ b, b < W.heap.size → W'.heap[b]? = W.heap[b]?) (may : MemPlace → Prop) : W.keptBut W' may := by
  refine ⟨hk.1.1, hk.2.1, fun i hi => ?_⟩
  rw [hb i hi]
  split <;> simp_all

/-- WHAT A FUNCTION TELLS of whatever arguments. -/
theorem lift_law {T : Tab} (hT : PuOk P T) {f : FuncId} {ts : List TypeId} {good : List CA → Prop} (hl : laidOutB P = true) (hr : ts.all (fun t => P.readableRec t && decide (t < P.types.size)) = true) (ho : OpAll P ts good)
    {r : CA} (hp : ∀ l, good l → T.pu f l = some r) {H : Type} {enc : TypeId × Value → H} {W : World} {base : Nat} {args : Array Value} {ds : List (DataW H)} {ps : List MemPlace} (ht : DataW.TrodAll enc P W 0 (fun _ => true) true ts args.toList ds ps)
    (hok : ∀ (j : Nat) t v, ts[j]? = some t → args[j]? = some v → Value.okWide P W .any base t v) (hq : ∀ (j : Nat) t d, ts[j]? = some t → ds[j]? = some d → ∀ q ∈ DataW.weights P t d, q ≤ 140737488351232) :
    Calls P f args W fun e W' => ∃ v I', e = .returned v ∧ RK I' W' r v ∧ Stl W W' ∧ (∀ b, b < W.heap.size → W'.heap[b]? = W.heap[b]?) ∧ DataW.TrodAll enc P W' 0 (fun b => decide (b < W.heap.size)) true ts args.toList ds ps := by
  obtain ⟨l, hL, hg⟩ := ho H enc W base args.toList ds ps ht (fun j t v h1 h2 => hok j t v h1 (by simpa using h2)) hq
  obtain ⟨_, hc⟩ := hT f l r (hp l hg)
  have := hc (All W) W args.toList (fun _ h => h) hL
  refine (show Calls P f args W _ from this).mono fun e W' he => ?_
  obtain ⟨v, I', rfl, _, _, _, _, hb, hk, hR⟩ := he
  exact ⟨v, I', rfl, hR, hk, hb, trodAll_stays hl hb hr ht⟩

theorem trodAll_len {H : Type} {enc : TypeId × Value → H} {W : World} {base : Nat} {spare : Nat → Bool} {held : Bool} : ∀ {ts : List TypeId} {vs : List Value} {ds : List (DataW H)} {ps : List MemPlace}, DataW.TrodAll enc P W base spare held ts vs ds ps → ds.length = ts.length
  | [], vs, ds, ps, h => by
    obtain ⟨_, rfl, _⟩ := trodAll_nil h
    rfl
  | t :: ts, vs, ds, ps, h => by
    obtain ⟨v, vs, d, ds, p, q, rfl, rfl, rfl, _, r0⟩ := trodAll_cons h
    rw [List.length_cons, List.length_cons, trodAll_len r0]
theorem weights_of {H : Type} {ts us : List TypeId} {ds gs : List (DataW H)} (hsz : (DataW.weightsEach P (ts ++ us) (ds ++ gs)).all (· ≤ reachBytes) = true) (j : Nat) (t : TypeId) (d : DataW H) (ht : ts[j]? = some t) (hd : ds[j]? = some d) :
    ∀ q ∈ DataW.weights P t d, q ≤ 140737488351232 := by
  intro q hq
  have h1 : (ts ++ us)[j]? = some t := by rw [List.getElem?_append_left (List.getElem?_eq_some_iff.1 ht).1]; exact ht
  have h2 : (ds ++ gs)[j]? = some d := by rw [List.getElem?_append_left (List.getElem?_eq_some_iff.1 hd).1]; exact hd
  have h3 := of_decide_eq_true (List.all_eq_true.1 hsz q (DataW.weights_mem_each h1 h2 q hq))
  simpa [reachBytes] using h3

/-- A list of good parts is the list of what they tell. -/
theorem map_of {α : Type} {f : α → List CV} {g : α → Prop} : ∀ {L : List (List CV)}, (∀ e ∈ L, ∃ a, e = f a ∧ g a) → ∃ xs : List α, L = xs.map f ∧ ∀ x ∈ xs, g x
  | [], _ => ⟨[], rfl, by simp⟩
  | e :: L, h => by
    obtain ⟨a, rfl, ha⟩ := h e List.mem_cons_self
    obtain ⟨xs, rfl, hx⟩ := map_of (L := L) fun e he => h e (List.mem_cons_of_mem _ he)
    exact ⟨a :: xs, rfl, fun x hx' => (List.mem_cons.1 hx').elim (fun h => h ▸ ha) (hx x)⟩

end Go.Proofs.Vm
end

section
/- How data of the laws' parameter types open as closed values. -/
namespace Go.Proofs.YtapkbkbjfekldaaF
open Go Go.Proofs.Vm
def good28 : List CV → Prop := isP (isS) ((isI .i64))
theorem opens28 : Opens Try.prog 28 2 good28 := opens_struct Try.underlying28 (by kernel_rfl) (at_cons (sz := 1) (sz' := 1) rfl (by kernel_rfl) (opens_string Try.underlying9) (at_one (sz := 1) rfl (by kernel_rfl) (opens_int Try.underlying3)))
def good22 : List CV → Prop := isL 2 24 (good28)
theorem opens22 : Opens Try.prog 22 1 good22 := opens_slice Try.underlying22 (by kernel_rfl) (by decide) (by kernel_rfl) opens28
def goodsHeavyKeeps : List CA → Prop := (fun l => ∃ a r, l = a :: r ∧ (fun a => ∃ x, a = .one x ∧ isI .i64 [x]) a ∧ (fun l => ∃ a r, l = a :: r ∧ (fun a => ∃ x, a = .one x ∧ good22 [x]) a ∧ (fun l => l = []) r) r)
theorem opensHeavyKeeps : OpAll Try.prog [3, 22] goodsHeavyKeeps := (opAll_cons (opA_one (fun _ h => by rw [Try.underlying3] at h; cases h) (fun _ _ h => by rw [Try.underlying3] at h; cases h) (opens_int Try.underlying3)) (opAll_cons (opA_one (fun _ h => by rw [Try.underlying22] at h; cases h) (fun _ _ h => by rw [Try.underlying22] at h; cases h) opens22) opAll_nil))
def goodsHeavyStands : List CA → Prop := (fun l => ∃ a r, l = a :: r ∧ (fun a => ∃ x, a = .one x ∧ isI .i64 [x]) a ∧ (fun l => ∃ a r, l = a :: r ∧ (fun a => ∃ x, a = .one x ∧ good22 [x]) a ∧ (fun l => l = []) r) r)
theorem opensHeavyStands : OpAll Try.prog [3, 22] goodsHeavyStands := (opAll_cons (opA_one (fun _ h => by rw [Try.underlying3] at h; cases h) (fun _ _ h => by rw [Try.underlying3] at h; cases h) (opens_int Try.underlying3)) (opAll_cons (opA_one (fun _ h => by rw [Try.underlying22] at h; cases h) (fun _ _ h => by rw [Try.underlying22] at h; cases h) opens22) opAll_nil))
def goodsHeavyTop : List CA → Prop := (fun l => ∃ a r, l = a :: r ∧ (fun a => ∃ x, a = .one x ∧ isI .i64 [x]) a ∧ (fun l => ∃ a r, l = a :: r ∧ (fun a => ∃ x, a = .one x ∧ good22 [x]) a ∧ (fun l => l = []) r) r)
theorem opensHeavyTop : OpAll Try.prog [3, 22] goodsHeavyTop := (opAll_cons (opA_one (fun _ h => by rw [Try.underlying3] at h; cases h) (fun _ _ h => by rw [Try.underlying3] at h; cases h) (opens_int Try.underlying3)) (opAll_cons (opA_one (fun _ h => by rw [Try.underlying22] at h; cases h) (fun _ _ h => by rw [Try.underlying22] at h; cases h) opens22) opAll_nil))
def goodsHeavyNone : List CA → Prop := (fun l => ∃ a r, l = a :: r ∧ (fun a => ∃ x, a = .one x ∧ isS [x]) a ∧ (fun l => ∃ a r, l = a :: r ∧ (fun a => ∃ x, a = .one x ∧ isI .i64 [x]) a ∧ (fun l => l = []) r) r)
theorem opensHeavyNone : OpAll Try.prog [9, 3] goodsHeavyNone := (opAll_cons (opA_one (fun _ h => by rw [Try.underlying9] at h; cases h) (fun _ _ h => by rw [Try.underlying9] at h; cases h) (opens_string Try.underlying9)) (opAll_cons (opA_one (fun _ h => by rw [Try.underlying3] at h; cases h) (fun _ _ h => by rw [Try.underlying3] at h; cases h) (opens_int Try.underlying3)) opAll_nil))
def goodsHeavyPlays : List CA → Prop := (fun l => ∃ a r, l = a :: r ∧ (fun a => ∃ x, a = .one x ∧ isI .i64 [x]) a ∧ (fun l => ∃ a r, l = a :: r ∧ (fun a => ∃ x, a = .one x ∧ good22 [x]) a ∧ (fun l => l = []) r) r)
theorem opensHeavyPlays : OpAll Try.prog [3, 22] goodsHeavyPlays := (opAll_cons (opA_one (fun _ h => by rw [Try.underlying3] at h; cases h) (fun _ _ h => by rw [Try.underlying3] at h; cases h) (opens_int Try.underlying3)) (opAll_cons (opA_one (fun _ h => by rw [Try.underlying22] at h; cases h) (fun _ _ h => by rw [Try.underlying22] at h; cases h) opens22) opAll_nil))
end Go.Proofs.YtapkbkbjfekldaaF
end

section
/- Each function's run over the program's whole table. -/
namespace Go.Proofs.YtapkbkbjfekldaaP
open Go Go.Proofs.Vm Go.Proofs.YtapkbkbjfekldaaF
def cfg : Cfg := ⟨shF, neF, cmpTab 34⟩
noncomputable def TV : Tab := TT Try.prog cfg
theorem runX23 {args : List AV} {H : Hp} {Q : AV → Hp → Prop} (hb : cfg.base.S 23 args H = none) (hl : args.length ≤ 8) (hQ : ∀ a K, Q a K → H.length ≤ K.length) (h : wpV Try.prog TV ⟨8, shF, false⟩ (Try.f23.body.getD .skip) (endX Try.prog Try.f23.results.toList Q) ⟨envS args, H⟩) : ∃ a K, TV.S 23 args H = some (a, K) ∧ Q a K := TT_goX (N := ⟨8, shF, false⟩) Try.func23 (by kernel_rfl) ok23 (by kernel_rfl) (by kernel_rfl) hb hl hQ h -- slices.Clone[[]rillmeter/heavy.Item,rillmeter/heavy.Item]
theorem run23 {args : List AV} {r : AV} {H H' : Hp} (hb : cfg.base.S 23 args H = none) (hl : args.length ≤ 8) (hH : H.length ≤ H'.length) (h : wpV Try.prog TV ⟨8, shF, false⟩ (Try.f23.body.getD .skip) (endS Try.prog Try.f23.results.toList r H') ⟨envS args, H⟩) : TV.S 23 args H = some (r, H') := TT_goS (N := ⟨8, shF, false⟩) Try.func23 (by kernel_rfl) ok23 (by kernel_rfl) (by kernel_rfl) hb hl hH h -- slices.Clone[[]rillmeter/heavy.Item,rillmeter/heavy.Item]
theorem run25 {args : List CA} {r : CA} (hl : args.length ≤ 17) (h : wpV Try.prog TV ⟨17, shF, false⟩ (Try.f25.body.getD .skip) (endK Try.prog Try.f25.results.toList r) ⟨env0 args, []⟩) : TV.pu 25 args = some r := TT_go (N := ⟨17, shF, false⟩) Try.func25 (by kernel_rfl) ok25 (by kernel_rfl) (by kernel_rfl) (fun _ => rfl) hl h -- rillmeter/heavy.order
theorem run32 {args : List CA} {r : CA} (hl : args.length ≤ 18) (h : wpV Try.prog TV ⟨18, shF, false⟩ (Try.f32.body.getD .skip) (endK Try.prog Try.f32.results.toList r) ⟨env0 args, []⟩) : TV.pu 32 args = some r := TT_go (N := ⟨18, shF, false⟩) Try.func32 (by kernel_rfl) ok32 (by kernel_rfl) (by kernel_rfl) (fun _ => rfl) hl h -- cmp.Or[int]
theorem run33 {args : List CA} {r : CA} (hl : args.length ≤ 20) (h : wpV Try.prog TV ⟨20, shF, false⟩ (Try.f33.body.getD .skip) (endK Try.prog Try.f33.results.toList r) ⟨env0 args, []⟩) : TV.pu 33 args = some r := TT_go (N := ⟨20, shF, false⟩) Try.func33 (by kernel_rfl) ok33 (by kernel_rfl) (by kernel_rfl) (fun _ => rfl) hl h -- cmp.Compare[int]
theorem run46 {args : List CA} {r : CA} (hl : args.length ≤ 6) (h : wpV Try.prog TV ⟨6, shF, false⟩ (Try.f46.body.getD .skip) (endK Try.prog Try.f46.results.toList r) ⟨env0 args, []⟩) : TV.pu 46 args = some r := TT_go (N := ⟨6, shF, false⟩) Try.func46 (by kernel_rfl) ok46 (by kernel_rfl) (by kernel_rfl) (fun _ => rfl) hl h -- cmp.isNaN[int]
end Go.Proofs.YtapkbkbjfekldaaP
end

section
/- Maps from strings to numbers, with their stamps, told as they are used. -/
namespace Go.Proofs.Vm
open Go

variable {P : Program}

/-! Maps from strings to numbers. -/
def mget (k : ByteArray) : SM → Option Int
  | [] => none
  | p :: r => if k = p.1 then some p.2 else mget k r
def mput (k : ByteArray) (v : Int) (m : SM) : SM := match mIx k m with
  | some j => m.set j (k, v)
  | none => m ++ [(k, v)]
def mdel (k : ByteArray) (m : SM) : SM := match mIx k m with
  | some j => m.eraseIdx j
  | none => m

/-- A map with its stamps, and the next stamp. -/
structure MS where
  m : SM
  b : List Int
  ck : Nat
structure MS.Ok (M : MS) : Prop where
  len : M.b.length = M.m.length
  nd : M.b.Nodup
  lt : ∀ x ∈ M.b, x < (M.ck : Int)
def MS.ent (M : MS) : Ent := .mp (M.ck, cM M.m M.b)
def MS.put (M : MS) (k : ByteArray) (v : Int) : MS := match mIx k M.m with
  | some _ => ⟨mput k v M.m, M.b, M.ck⟩
  | none => ⟨mput k v M.m, M.b ++ [(M.ck : Int)], M.ck + 1⟩
def MS.del (M : MS) (k : ByteArray) : MS := match mIx k M.m with
  | some j => ⟨mdel k M.m, M.b.eraseIdx j, M.ck⟩
  | none => M
def MS.stamp (M : MS) (k : ByteArray) : Int := match mIx k M.m with
  | some j => M.b[j]?.getD 0
  | none => 0
def MS.empty : MS := ⟨[], [], 0⟩
theorem MS.empty_ok : MS.empty.Ok := ⟨rfl, List.nodup_nil, fun x h => by cases h⟩
theorem MS.empty_ent : MS.empty.ent = .mp (0, []) := rfl
@[simp] theorem MS.put_m (M : MS) (k : ByteArray) (v : Int) : (M.put k v).m = mput k v M.m := by unfold MS.put; split <;> rfl
@[simp] theorem MS.del_m (M : MS) (k : ByteArray) : (M.del k).m = mdel k M.m := by
  unfold MS.del
  split
  · rfl
  · rename_i h; unfold mdel; rw [h]

theorem mIx_lt {k : ByteArray} : ∀ {m : SM} {j : Nat}, mIx k m = some j → ∃ h : j < m.length, m[j].1 = k ∧ mget k m = some m[j].2
  | [], j, h => by cases h
  | p :: r, j, h => by
    unfold mIx at h
    by_cases hk : k = p.1
    · rw [if_pos hk] at h
      cases h
      exact ⟨Nat.succ_pos _, hk.symm, by show mget k (p :: r) = some p.2; unfold mget; rw [if_pos hk]⟩
    · rw [if_neg hk] at h
      cases hr : mIx k r with
      | none => rw [hr] at h; cases h
      | some i =>
        rw [hr] at h
        cases h
        obtain ⟨h1, h2, h3⟩ := mIx_lt hr
        exact ⟨Nat.succ_lt_succ h1, h2, by unfold mget; rw [if_neg hk]; exact h3⟩
theorem mIx_no {k : ByteArray} : ∀ {m : SM}, mIx k m = none → mget k m = none
  | [], _ => rfl
  | p :: r, h => by
    unfold mIx at h
    by_cases hk : k = p.1
    · rw [if_pos hk] at h; cases h
    · rw [if_neg hk] at h
      unfold mget
      rw [if_neg hk]
      exact mIx_no (Option.map_eq_none_iff.1 h)

theorem MS.put_ok {M : MS} (h : M.Ok) (k : ByteArray) (v : Int) : (M.put k v).Ok := by
  unfold MS.put
  split
  · rename_i j hj
    exact ⟨by show M.b.length = (mput k v M.m).length; unfold mput; rw [hj]; simp [h.len], h.nd, h.lt⟩
  · rename_i hj
    refine ⟨by show (M.b ++ [(M.ck : Int)]).length = (mput k v M.m).length; unfold mput; rw [hj]; simp [h.len], ?_, ?_⟩
    · refine List.nodup_append.2 ⟨h.nd, by simp, ?_⟩
      intro x hx y hy
      have hy : y = (M.ck : Int) := by simpa using hy
      have := h.lt x hx
      omega
    · intro x hx
      show x < ((M.ck + 1 : Nat) : Int)
      rcases List.mem_append.1 hx with hx | hx
      · have := h.lt x hx; omega
      · have : x = (M.ck : Int) := by simpa using hx
        omega
theorem MS.del_ok {M : MS} (h : M.Ok) (k : ByteArray) : (M.del k).Ok := by
  unfold MS.del
  split
  · rename_i j hj
    obtain ⟨hl, _, _⟩ := mIx_lt hj
    refine ⟨?_, h.nd.sublist (List.eraseIdx_sublist _ _), fun x hx => h.lt x ((List.eraseIdx_sublist _ _).subset hx)⟩
    show (M.b.eraseIdx j).length = (mdel k M.m).length
    unfold mdel
    rw [hj]
    show (M.b.eraseIdx j).length = (M.m.eraseIdx j).length
    rw [List.length_eraseIdx, List.length_eraseIdx, h.len]
  · exact h

theorem cM_set : ∀ {m : SM} {b : List Int} {j : Nat} (k : ByteArray) (v : Int), b.length = m.length → ∀ h : j < m.length, m[j].1 = k →
    (cM m b).modify j (fun p => (.string k, .v (.int .i64 v) :: p.2.drop 1)) = cM (m.set j (k, v)) b ∧ (cM m b).modify j (fun p => (p.1, .v (.int .i64 v) :: p.2.drop 1)) = cM (m.set j (k, v)) b ∧ (cM m b).modify j (fun p => (.string k, p.2)) = cM m b
  | [], _, _, _, _, _, h, _ => by simp at h
  | p :: r, [], _, _, _, h, _, _ => by simp at h
  | p :: r, b :: bs, 0, k, v, _, _, hk => by
    have hk : p.1 = k := hk
    subst hk
    exact ⟨rfl, rfl, rfl⟩
  | p :: r, b :: bs, j + 1, k, v, hl, h, hk => by
    obtain ⟨h1, h2, h3⟩ := cM_set (m := r) (b := bs) (j := j) k v (by simpa using hl) (by simpa using h) hk
    refine ⟨?_, ?_, ?_⟩
    · show _ :: (cM r bs).modify j _ = _; rw [h1]; rfl
    · show _ :: (cM r bs).modify j _ = _; rw [h2]; rfl
    · show _ :: (cM r bs).modify j _ = _; rw [h3]; rfl
theorem cM_app : ∀ {m : SM} {b : List Int} (k : ByteArray) (v x : Int), b.length = m.length → cM m b ++ [(.string k, [.v (.int .i64 v), .v (.int .i64 x)])] = cM (m ++ [(k, v)]) (b ++ [x])
  | [], [], _, _, _, _ => rfl
  | [], b :: bs, _, _, _, h => by simp at h
  | p :: r, [], _, _, _, h => by simp at h
  | p :: r, b :: bs, k, v, x, h => by
    show _ :: (cM r bs ++ _) = _
    rw [cM_app k v x (by simpa using h)]
    rfl
theorem cM_erase : ∀ {m : SM} {b : List Int} (j : Nat), b.length = m.length → (cM m b).eraseIdx j = cM (m.eraseIdx j) (b.eraseIdx j)
  | [], [], _, _ => rfl
  | [], b :: bs, _, h => by simp at h
  | p :: r, [], _, h => by simp at h
  | p :: r, b :: bs, 0, _ => rfl
  | p :: r, b :: bs, j + 1, h => by
    show _ :: (cM r bs).eraseIdx j = _
    rw [cM_erase j (by simpa using h)]
    rfl
theorem cM_stamp : ∀ {m : SM} {b : List Int} {j : Nat} (hl : b.length = m.length) (_ : b.Nodup) (h : j < b.length), (cM m b).findIdx? (stampIs b[j]) = some j
  | [], b, j, hl, _, h => by simp at hl; subst hl; simp at h
  | p :: r, [], j, _, _, h => by simp at h
  | p :: r, b :: bs, 0, _, _, _ => by
    show ((Value.string p.1, [CV.v (.int .i64 p.2), .v (.int .i64 b)]) :: cM r bs).findIdx? _ = _
    rw [List.findIdx?_cons, if_pos (by show (b == b) = true; simp)]
  | p :: r, b :: bs, j + 1, hl, hn, h => by
    have hj : j < bs.length := by simpa using h
    have hne : b ≠ bs[j] := fun e => (List.nodup_cons.1 hn).1 (e ▸ List.getElem_mem hj)
    show ((Value.string p.1, [CV.v (.int .i64 p.2), .v (.int .i64 b)]) :: cM r bs).findIdx? (stampIs bs[j]) = _
    rw [List.findIdx?_cons, if_neg (by show ¬ (b == bs[j]) = true; simpa using hne), cM_stamp (by simpa using hl) (List.nodup_cons.1 hn).2 hj]
    rfl

section
variable {H : Hp} {t : TypeId} {mi : Nat} {M : MS} {k : ByteArray} {v : Int}

theorem mapAt_eq (h : H[mi]? = some M.ent) : mapAt H (.one (.mp mi)) = some (mi, (M.ck, cM M.m M.b)) := by simp only [mapAt, h, MS.ent]
theorem lk_eq (ht : mapTy P t = some (.string, .int .i64 0)) (ok : M.Ok) (h : H[mi]? = some M.ent) :
    vlookup P H t (.one (.mp mi)) (.one (.c (.v (.string k)))) true = qa (.tup [(false, [.c (.v (.int .i64 ((mget k M.m).getD 0)))]), (false, [.c (.v (.bool (mget k M.m).isSome))])]) := by
  unfold vlookup
  rw [ht, mapAt_eq h]
  have sc : (AV.one (.c (.v (.string k)))).sc = some (.string k) := rfl
  have kd : kindOk .string (.string k) = true := rfl
  simp only [sc, kd, if_true]
  rw [find_cM k M.m M.b ok.len]
  cases hj : mIx k M.m with
  | none => simp only [mIx_no hj]; rfl
  | some j =>
    obtain ⟨hl, _, hg⟩ := mIx_lt hj
    simp only [cM_get M.m M.b j hl (by rw [ok.len]; exact hl), hg]
    rfl
theorem mu_eq (ht : mapTy P t = some (.string, .int .i64 0)) (ok : M.Ok) (h : H[mi]? = some M.ent) :
    vmapUpdate P H t (.one (.mp mi)) (.one (.c (.v (.string k)))) (.one (.c (.v (.int .i64 v)))) = some (und, H.set mi (M.put k v).ent) := by
  unfold vmapUpdate
  rw [ht, mapAt_eq h]
  have sc : (AV.one (.c (.v (.string k)))).sc = some (.string k) := rfl
  have kd : kindOk .string (.string k) = true := rfl
  simp only [sc, kd, if_true]
  rw [find_cM k M.m M.b ok.len]
  simp only [MS.put, mput, MS.ent]
  cases hj : mIx k M.m with
  | none =>
    simp only [putM, cM_app k v M.ck ok.len]
  | some j =>
    obtain ⟨hl, hk, _⟩ := mIx_lt hj
    simp only [putM, (cM_set k v ok.len hl hk).1]
theorem md_eq (ht : mapTy P t = some (.string, .int .i64 0)) (ok : M.Ok) (h : H[mi]? = some M.ent) :
    vdelete P H t (.one (.mp mi)) (.one (.c (.v (.string k)))) = some (und, H.set mi (M.del k).ent) := by
  unfold vdelete
  rw [ht, mapAt_eq h]
  have sc : (AV.one (.c (.v (.string k)))).sc = some (.string k) := rfl
  have kd : kindOk .string (.string k) = true := rfl
  simp only [sc, kd, if_true]
  rw [find_cM k M.m M.b ok.len]
  cases hj : mIx k M.m with
  | none => simp only [MS.del, hj, MS.ent]
  | some j =>
    simp only [MS.del, hj, mdel, MS.ent, cM_erase j ok.len]
theorem me_eq (ht : mapTy P t = some (.string, .int .i64 0)) (ok : M.Ok) (h : H[mi]? = some M.ent) (hg : (mget k M.m).isSome = true) :
    vmapEntry P H t (.one (.mp mi)) (.one (.c (.v (.string k)))) = some (.tup [(false, [.c (.v (.int .i64 ((mget k M.m).getD 0)))]), (false, [.c (.v (.int .i64 (M.stamp k)))])], H) := by
  unfold vmapEntry
  rw [ht, mapAt_eq h]
  have sc : (AV.one (.c (.v (.string k)))).sc = some (.string k) := rfl
  have kd : kindOk .string (.string k) = true := rfl
  simp only [sc, kd, if_true]
  rw [find_cM k M.m M.b ok.len]
  cases hj : mIx k M.m with
  | none => rw [mIx_no hj] at hg; cases hg
  | some j =>
    obtain ⟨hl, hk, hg'⟩ := mIx_lt hj
    have hb : j < M.b.length := by rw [ok.len]; exact hl
    simp only [cM_get M.m M.b j hl hb, (cM_set k 0 ok.len hl hk).2.2, hg', MS.stamp, hj, List.getElem?_eq_getElem hb]
    rw [set_same (e := .mp (M.ck, cM M.m M.b)) h]
    rfl
theorem es_eq (ok : M.Ok) (h : H[mi]? = some M.ent) (hg : (mget k M.m).isSome = true) :
    ventryStore H (.one (.mp mi)) (.one (.c (.v (.int .i64 (M.stamp k))))) (.one (.c (.v (.int .i64 v)))) = some (und, H.set mi (M.put k v).ent) := by
  unfold ventryStore
  rw [mapAt_eq h]
  cases hj : mIx k M.m with
  | none => rw [mIx_no hj] at hg; cases hg
  | some j =>
    obtain ⟨hl, hk, hg'⟩ := mIx_lt hj
    have hb : j < M.b.length := by rw [ok.len]; exact hl
    have hs : M.stamp k = M.b[j] := by simp only [MS.stamp, hj, List.getElem?_eq_getElem hb]; rfl
    simp only [MS.ent, hs, cM_stamp ok.len ok.nd hb, (cM_set k v ok.len hl hk).2.1, MS.put, mput, hj]
theorem ml_eq {ty : TypeId} (ht : isMapT P t = true) (ok : M.Ok) (h : H[mi]? = some M.ent) : vlen P H #[t] ty (.one (.mp mi)) = qa (.one (.c (.v (.int .i64 M.m.length)))) := by
  have e1 := mapAt_eq h
  unfold vlen
  simp only [show (#[t] : Array TypeId)[0]? = some t from rfl, e1, ht, if_true, cM_len M.m M.b ok.len]
  rfl
end

end Go.Proofs.Vm
end

section
/- Small laws of the machine's numbers. -/
namespace Go.Proofs.Vm
open Go

variable {P : Program} {H : Hp}

theorem w64_id {x : Int} (h0 : -9223372036854775808 ≤ x) (h1 : x < 9223372036854775808) : IntKind.i64.wrap x = x := by rw [IntKind.wrap_i64]; omega
theorem bin_half {t : TypeId} {x y : Operand} {k : Nat} (h : k < 9223372036854775808) : vbin P H .quo t x y (vI .i64 (k : Int)) (vI .i64 2) = qa (vI .i64 ((k / 2 : Nat) : Int)) := by
  rw [bin_quo (by decide)]
  have e : (k : Int).tdiv 2 = ((k / 2 : Nat) : Int) := by rw [Int.tdiv_eq_ediv_of_nonneg (by omega)]; omega
  rw [e, w64_id (by omega) (by omega)]
theorem hq_gete (K : Hp) (a b c : Nat) (x y z : Ent) (L : Hp) (j : Nat) (h : K.length + j < (hq K a b c x y z L).length) : (hq K a b c x y z L)[K.length + j]'h = L[j]'(by rw [hq_len] at h; omega) := by
  have h1 := hq_get K a b c x y z L j
  have hj : j < L.length := by rw [hq_len] at h; omega
  rw [List.getElem?_eq_getElem h, List.getElem?_eq_getElem hj] at h1
  exact Option.some.inj h1
@[simp] theorem isNil_ptr {p : Option Addr} : isNil (.const (.pointer p)) = false := rfl
theorem bin_pne {t e : TypeId} (hu : pv P (underlying t) = some (.pointer e)) {x y : Operand} {p : Pt} (hl : lenIs H p.id p.tot = true) : vbin P H .eql t x y (.one (.ptr p)) (.one (.c (.v (.pointer none)))) = qa (vB false) := by
  simp [-lenIs, vbin, vbin0, neSl, isNils, isPtr, isNilp, fresh, hl, hu, one?, Value.oneCell']
theorem bin_slo {t e : TypeId} (he : elemOfSlice P t = some e) {x y : Operand} {id o n tot : Nat} (hn : n ≠ 0) (hl : lenIs H id tot = true) : vbin P H .eql t x y (.one (.sl id o n tot)) (.one (.c (.v (.slice none 0 0)))) = qa (vB false) := by
  have hu : ∃ d, pv P (underlying t) = some (.slice d) := by
    unfold elemOfSlice at he
    split at he
    · rename_i d hd; exact ⟨_, hd⟩
    · cases he
  obtain ⟨d, hd⟩ := hu
  simp [-lenIs, vbin, neSl, isNils, okSl, hl, hn, hd, one?, Value.oneCell']
theorem eq_sl {t e : TypeId} (hu : pv P (underlying t) = some (.slice e)) (ad : Option Addr) (n c : Nat) (d : Nat) : pv P (Op.equalIn (d + 1) t (.slice ad n c) (.slice none 0 0)) = some ad.isNone := by
  unfold Op.equalIn
  cases ad <;> simp [hu]
theorem bin_slr {t e : TypeId} (he : elemOfSlice P t = some e) {x y : Operand} {ad : Option Addr} {n c : Nat} : vbin P H .eql t x y (.one (.c (.v (.slice ad n c)))) (.one (.c (.v (.slice none 0 0)))) = qa (vB ad.isNone) := by
  have hu : ∃ d, pv P (underlying t) = some (.slice d) := by
    unfold elemOfSlice at he
    split at he
    · rename_i d hd; exact ⟨_, hd⟩
    · cases he
  obtain ⟨d, hd⟩ := hu
  simp [vbin, vbin0, neSl, isNils, isPtr, isNilp, fresh, AV.sc, Cell.sc, eqGuard, binOp, ofPv, one?, Value.oneCell', Op.equal, Op.maxDepth, eq_sl hd ad n c 9999]
theorem eq_bool {t : TypeId} (hu : pv P (underlying t) = some .bool) (a b : Bool) (d : Nat) : pv P (Op.equalIn (d + 1) t (.bool a) (.bool b)) = some (a == b) := by
  unfold Op.equalIn
  simp [hu]
theorem eq_nil {t e : TypeId} (hu : pv P (underlying t) = some (.pointer e)) (d : Nat) : pv P (Op.equalIn (d + 1) t (.pointer none) (.pointer none)) = some true := by
  unfold Op.equalIn
  simp [hu]
theorem bin_pee {t e : TypeId} (hu : pv P (underlying t) = some (.pointer e)) {x y : Operand} : vbin P H .eql t x y (.one (.c (.v (.pointer none)))) (.one (.c (.v (.pointer none)))) = qa (vB true) := by
  simp [vbin, vbin0, neSl, isNils, isPtr, isNilp, fresh, AV.sc, Cell.sc, eqGuard, binOp, ofPv, one?, Value.oneCell', Op.equal, Op.maxDepth, eq_nil hu 9999]
theorem bin_bne {t : TypeId} (hu : pv P (underlying t) = some .bool) {x y : Operand} {a b : Bool} : vbin P H .neq t x y (vB a) (vB b) = qa (vB (a != b)) := by
  simp [vbin, vbin0, neSl, isNils, isPtr, isNilp, fresh, AV.sc, Cell.sc, eqGuard, binOp, ofPv, one?, Value.oneCell', Op.equal, Op.maxDepth, eq_bool hu a b 9999]
  rfl
theorem bin_beq {t : TypeId} (hu : pv P (underlying t) = some .bool) {x y : Operand} {a b : Bool} : vbin P H .eql t x y (vB a) (vB b) = qa (vB (a == b)) := by
  simp [vbin, vbin0, neSl, isNils, isPtr, isNilp, fresh, AV.sc, Cell.sc, eqGuard, binOp, ofPv, one?, Value.oneCell', Op.equal, Op.maxDepth, eq_bool hu a b 9999]
/-- The first so many of a row that does not change. -/
theorem slc_to {t e sz : Nat} (he : elemOfSlice P t = some e) (hs : pv P (sizeOf e) = some sz) {xs : List (List CV)} {nid k : Nat} (h1 : k ≤ xs.length) (hx : AllLen xs sz) : vslice P H nid t (.one (.c (.arr xs))) none (some (vI .i64 (k : Int))) none = qa (.one (.c (.arr (xs.take k)))) := by
  have h2 : (k : Int) ≤ xs.length := by omega
  unfold vslice
  simp only [he, hs, optInt, Option.getD_none, Option.getD_some]
  rw [if_pos ⟨Int.le_refl _, by omega, h2, hx⟩]
  simp
end Go.Proofs.Vm
end

section
/- The order of items, over the first table (before the sort is known). -/
namespace Go.Proofs.YtapkbkbjfekldaaP
open Go Go.Proofs.Vm Go.Proofs.YtapkbkbjfekldaaF

theorem isNaN (x : Int) : TV.pu 46 [cI .i64 x] = some (cB false) := by
  refine run46 (by simp) ?_
  simp -implicitDefEqProofs [Try.f46]
theorem Compare (x y : Int) : TV.pu 33 [cI .i64 x, cI .i64 y] = some (cI .i64 (cmpI x y)) := by
  refine run33 (by simp) ?_
  by_cases h1 : x < y
  · simp -implicitDefEqProofs [Try.f33, isNaN, cmpI, h1]
  · by_cases h2 : y < x <;> simp -implicitDefEqProofs [Try.f33, isNaN, cmpI, h1, h2]
theorem Or (x y : Int) : TV.pu 32 [.one (.arr [[.v (.int .i64 x)], [.v (.int .i64 y)]])] = some (cI .i64 (if x ≠ 0 then x else y)) := by
  refine run32 (by simp) ?_
  have w1 : IntKind.i64.wrap 1 = 1 := by decide
  have w2 : IntKind.i64.wrap 2 = 2 := by decide
  simp -implicitDefEqProofs [Try.f32]
  refine wpL_step ?_
  by_cases h1 : x = 0
  · simp -implicitDefEqProofs [h1, w1]
    refine wpL_step ?_
    by_cases h2 : y = 0
    · simp -implicitDefEqProofs [h2, w2]
      refine wpL_step ?_
      simp -implicitDefEqProofs
    · simp -implicitDefEqProofs [h2]
  · simp -implicitDefEqProofs [h1]
theorem cmpPu (x y : ByteArray) : TV.pu 34 [.one (.v (.string x)), .one (.v (.string y))] = some (cI .i64 (cmpB x y)) := TT_base rfl
theorem order (a b : Itm) : TV.pu 25 [.agg (cItm a), .agg (cItm b)] = some (cI .i64 (ordI a b)) := by
  refine run25 (by simp) ?_
  simp -implicitDefEqProofs [Try.f25, Compare, Or, cItm, ordI, cmpPu, vbuildSlice_eq es74 el3, cellsOf?, fzParts, setAll, rchParts, rch]
/-- A slice of none, as it is. -/
theorem clone0 (ad : Option Addr) (cap : Nat) (H : Hp) : TV.S 23 [.one (.c (.v (.slice ad 0 cap)))] H = some (.one (.sl (H.length + 1) 0 0 0), H ++ [.clo [] false, .clo [] false]) := by
  refine run23 rfl (by simp) (by simp) ?_
  cases ad with
  | none =>
    simp -implicitDefEqProofs [Try.f23, vmove, isNil, bin_slr es22]
  | some a =>
    simp -implicitDefEqProofs [Try.f23, vmove, isNil, bin_slr es22, bs_zero es22 el28, vappend_sp es22 es22 el28, elemsOf]
end Go.Proofs.YtapkbkbjfekldaaP
namespace Go.Proofs.YtapkbkbjfekldaaF
open Go Go.Proofs.Vm

theorem isNaN (x : Int) : TV.pu 46 [cI .i64 x] = some (cB false) := by
  refine run46 (by simp) ?_
  simp -implicitDefEqProofs [Try.f46]
theorem Compare (x y : Int) : TV.pu 33 [cI .i64 x, cI .i64 y] = some (cI .i64 (cmpI x y)) := by
  refine run33 (by simp) ?_
  by_cases h1 : x < y
  · simp -implicitDefEqProofs [Try.f33, isNaN, cmpI, h1]
  · by_cases h2 : y < x <;> simp -implicitDefEqProofs [Try.f33, isNaN, cmpI, h1, h2]
theorem Or (x y : Int) : TV.pu 32 [.one (.arr [[.v (.int .i64 x)], [.v (.int .i64 y)]])] = some (cI .i64 (if x ≠ 0 then x else y)) := by
  refine run32 (by simp) ?_
  have w1 : IntKind.i64.wrap 1 = 1 := by decide
  have w2 : IntKind.i64.wrap 2 = 2 := by decide
  simp -implicitDefEqProofs [Try.f32]
  refine wpL_step ?_
  by_cases h1 : x = 0
  · simp -implicitDefEqProofs [h1, w1]
    refine wpL_step ?_
    by_cases h2 : y = 0
    · simp -implicitDefEqProofs [h2, w2]
      refine wpL_step ?_
      simp -implicitDefEqProofs
    · simp -implicitDefEqProofs [h2]
  · simp -implicitDefEqProofs [h1]
theorem cmpPu (x y : ByteArray) : TV.pu 34 [.one (.v (.string x)), .one (.v (.string y))] = some (cI .i64 (cmpB x y)) := TT_base rfl
theorem order (a b : Itm) : TV.pu 25 [.agg (cItm a), .agg (cItm b)] = some (cI .i64 (ordI a b)) := by
  refine run25 (by simp) ?_
  simp -implicitDefEqProofs [Try.f25, Compare, Or, cItm, ordI, cmpPu, vbuildSlice_eq es74 el3, cellsOf?, fzParts, setAll, rchParts, rch]
end Go.Proofs.YtapkbkbjfekldaaF
end

section
/-
  DERIVED: THE SHELF's CONTRACTS AT THIS DUMP, IN PLAIN WORDS (tools/lay-plain.mjs out of 'YtapkbkbjfekldaaShelfSrc.lean', which tools/lay-shelf.mjs wrote): THE SAME DECLARATIONS UNDER THE SAME NAMES: 'import', 'namespace', 'open', 'def', 'theorem' AND NOTHING ELSE: no command of the shelf's: FOR A HAND-IN. Each laying: the table of numbers ('.._ren') and one theorem, a field a fact of the dump's own or the kernel's comparison; each contract: ONE APPLICATION.
-/
namespace Go.Proofs
open Go.Shelf
def Try.lays213_ren : Go.Shelf.Ren := ⟨fun | 213 => 47 | 265 => 53 | n => n, fun | 9 => 9 | 3 => 3 | n => n, fun | n => n⟩
theorem Try.lays213 : Go.Proofs.Lays.n213 Try.prog Try.lays213_ren := {
  mixed := by kernel_rfl
  f213 := Try.func47.trans (congrArg some (by kernel_rfl))
  f265 := Try.func53.trans (congrArg some (by kernel_rfl))
  t3 := Try.underlying3
  a3 := Try.isAgg3
  z3 := Try.sizeOf3
  v3 := Try.zeroValue3
  t9 := Try.underlying9
  a9 := Try.isAgg9
  z9 := Try.sizeOf9
  v9 := Try.zeroValue9 }
open Go.RowKit in
/-- internal/bytealg.CompareString (what strings.Compare calls): IT RETURNS 'Lib.compareBytes a b'; the world is as it was. (LAID: no walk: one application.) -/
theorem Try.bytealg_CompareString (a b : ByteArray) (w : World) :
    Calls Try.prog 47 #[.string a, .string b] w fun e w' => e = .returned (.int .i64 (Lib.compareBytes a.data.toList b.data.toList)) ∧ w' = w := Any.bytealg_CompareString Try.lays213 a b w
def Try.lays106_ren : Go.Shelf.Ren := ⟨fun | 106 => 34 | 213 => 47 | 265 => 53 | n => n, fun | 9 => 9 | 3 => 3 | n => n, fun | n => n⟩
theorem Try.lays106 : Go.Proofs.Lays.n106 Try.prog Try.lays106_ren := {
  mixed := by kernel_rfl
  f106 := Try.func34.trans (congrArg some (by kernel_rfl))
  f213 := Try.func47.trans (congrArg some (by kernel_rfl))
  f265 := Try.func53.trans (congrArg some (by kernel_rfl))
  t3 := Try.underlying3
  a3 := Try.isAgg3
  z3 := Try.sizeOf3
  v3 := Try.zeroValue3
  t9 := Try.underlying9
  a9 := Try.isAgg9
  z9 := Try.sizeOf9
  v9 := Try.zeroValue9 }
open Go.RowKit in
/-- strings.Compare: "Compare returns an integer comparing two strings lexicographically. The result will be 0 if a == b, -1 if a < b, and +1 if a > b.": IT RETURNS 'Lib.compareBytes a b'; the world is as it was. (LAID: no walk: one application.) -/
theorem Try.strings_Compare (a b : ByteArray) (w : World) :
    Calls Try.prog 34 #[.string a, .string b] w fun e w' => e = .returned (.int .i64 (Lib.compareBytes a.data.toList b.data.toList)) ∧ w' = w := Any.strings_Compare Try.lays106 a b w
def Try.lays215_ren : Go.Shelf.Ren := ⟨fun | 215 => 46 | n => n, fun | 3 => 3 | 4 => 4 | n => n, fun | n => n⟩
theorem Try.lays215 : Go.Proofs.Lays.n215 Try.prog Try.lays215_ren := {
  mixed := by kernel_rfl
  f215 := Try.func46.trans (congrArg some (by kernel_rfl))
  t3 := Try.underlying3
  a3 := Try.isAgg3
  z3 := Try.sizeOf3
  v3 := Try.zeroValue3
  t4 := Try.underlying4
  a4 := Try.isAgg4
  z4 := Try.sizeOf4
  v4 := Try.zeroValue4 }
open Go.RowKit in
/-- cmp.isNaN at int: 'x != x': false. (LAID: no walk: one application.) -/
theorem Try.cmp_isNaN_int (x : Int) (w : World) :
    Calls Try.prog 46 #[.int .i64 x] w fun e w' => e = .returned (.bool false) ∧ w' = w := Any.cmp_isNaN_int Try.lays215 x w
def Try.lays122_ren : Go.Shelf.Ren := ⟨fun | 122 => 33 | 215 => 46 | n => n, fun | 3 => 3 | 4 => 4 | n => n, fun | n => n⟩
theorem Try.lays122 : Go.Proofs.Lays.n122 Try.prog Try.lays122_ren := {
  mixed := by kernel_rfl
  f122 := Try.func33.trans (congrArg some (by kernel_rfl))
  f215 := Try.func46.trans (congrArg some (by kernel_rfl))
  t3 := Try.underlying3
  a3 := Try.isAgg3
  z3 := Try.sizeOf3
  v3 := Try.zeroValue3
  t4 := Try.underlying4
  a4 := Try.isAgg4
  z4 := Try.sizeOf4
  v4 := Try.zeroValue4 }
open Go.RowKit in
/-- cmp.Compare at int: "Compare returns -1 if x is less than y, 0 if x equals y, +1 if x is greater than y.": IT RETURNS 'Lib.compareInt x y'; the world is as it was. (LAID: no walk: one application.) -/
theorem Try.cmp_Compare_int (x y : Int) (w : World) :
    Calls Try.prog 33 #[.int .i64 x, .int .i64 y] w fun e w' => e = .returned (.int .i64 (Lib.compareInt x y)) ∧ w' = w := Any.cmp_Compare_int Try.lays122 x y w
def Try.laysSortItem_ren : Go.Shelf.Ren := ⟨fun | 6 => 24 | 15 => 31 | 14 => 30 | 28 => 44 | 29 => 45 | 20 => 36 | 21 => 37 | 22 => 38 | 23 => 39 | 24 => 40 | 25 => 41 | 26 => 42 | 27 => 43 | 46 => 48 | 47 => 49 | 48 => 50 | 49 => 51 | 50 => 52 | 57 => 54 | n => n, fun | 22 => 22 | 24 => 28 | 25 => 51 | 3 => 3 | 39 => 58 | 0 => 0 | 53 => 71 | 55 => 73 | 4 => 4 | 46 => 65 | 45 => 64 | 50 => 31 | 5 => 5 | 9 => 9 | 66 => 76 | 70 => 80 | 76 => 82 | 77 => 83 | n => n, fun | n => n⟩
theorem Try.laysSortItem : Go.Proofs.SlLaysF0.n6 Try.prog Try.laysSortItem_ren := {
  mixed := by kernel_rfl
  f6 := ⟨Try.f24.name, by decide, Try.func24.trans (congrArg some (by kernel_rfl))⟩
  f14 := ⟨Try.f30.name, by decide, Try.func30.trans (congrArg some (by kernel_rfl))⟩
  f15 := Try.func31.trans (congrArg some (by kernel_rfl))
  f20 := ⟨Try.f36.name, by decide, Try.func36.trans (congrArg some (by kernel_rfl))⟩
  f21 := ⟨Try.f37.name, by decide, Try.func37.trans (congrArg some (by kernel_rfl))⟩
  f22 := ⟨Try.f38.name, by decide, Try.func38.trans (congrArg some (by kernel_rfl))⟩
  f23 := ⟨Try.f39.name, by decide, Try.func39.trans (congrArg some (by kernel_rfl))⟩
  f24 := ⟨Try.f40.name, by decide, Try.func40.trans (congrArg some (by kernel_rfl))⟩
  f25 := ⟨Try.f41.name, by decide, Try.func41.trans (congrArg some (by kernel_rfl))⟩
  f26 := ⟨Try.f42.name, by decide, Try.func42.trans (congrArg some (by kernel_rfl))⟩
  f27 := ⟨Try.f43.name, by decide, Try.func43.trans (congrArg some (by kernel_rfl))⟩
  f28 := Try.func44.trans (congrArg some (by kernel_rfl))
  f29 := Try.func45.trans (congrArg some (by kernel_rfl))
  f46 := ⟨Try.f48.name, by decide, Try.func48.trans (congrArg some (by kernel_rfl))⟩
  f47 := Try.func49.trans (congrArg some (by kernel_rfl))
  f48 := Try.func50.trans (congrArg some (by kernel_rfl))
  f49 := ⟨Try.f51.name, by decide, Try.func51.trans (congrArg some (by kernel_rfl))⟩
  f50 := ⟨Try.f52.name, by decide, Try.func52.trans (congrArg some (by kernel_rfl))⟩
  f57 := ⟨Try.f54.name, by decide, Try.func54.trans (congrArg some (by kernel_rfl))⟩
  t0 := Try.underlying0
  a0 := Try.isAgg0
  z0 := Try.sizeOf0
  v0 := Try.zeroValue0
  t3 := Try.underlying3
  a3 := Try.isAgg3
  z3 := Try.sizeOf3
  v3 := Try.zeroValue3
  t4 := Try.underlying4
  a4 := Try.isAgg4
  z4 := Try.sizeOf4
  v4 := Try.zeroValue4
  t5 := Try.underlying5
  a5 := Try.isAgg5
  z5 := Try.sizeOf5
  v5 := Try.zeroValue5
  t9 := Try.underlying9
  a9 := Try.isAgg9
  z9 := Try.sizeOf9
  v9 := Try.zeroValue9
  t22 := Try.underlying22
  a22 := Try.isAgg22
  z22 := Try.sizeOf22
  v22 := Try.zeroValue22
  t25 := Try.underlying51
  a25 := Try.isAgg51
  z25 := Try.sizeOf51
  v25 := Try.zeroValue51
  t39 := Try.underlying58
  a39 := Try.isAgg58
  z39 := Try.sizeOf58
  v39 := Try.zeroValue58
  t45 := Try.underlying64
  a45 := Try.isAgg64
  z45 := Try.sizeOf64
  v45 := Try.zeroValue64
  t46 := Try.underlying65
  a46 := Try.isAgg65
  z46 := Try.sizeOf65
  v46 := Try.zeroValue65
  t50 := Try.underlying31
  a50 := Try.isAgg31
  z50 := Try.sizeOf31
  v50 := Try.zeroValue31
  t53 := Try.underlying71
  a53 := Try.isAgg71
  z53 := Try.sizeOf71
  v53 := Try.zeroValue71
  t55 := Try.underlying73
  a55 := Try.isAgg73
  z55 := Try.sizeOf73
  v55 := Try.zeroValue73
  t66 := Try.underlying76
  a66 := Try.isAgg76
  z66 := Try.sizeOf76
  v66 := Try.zeroValue76
  t70 := Try.underlying80
  a70 := Try.isAgg80
  z70 := Try.sizeOf80
  v70 := Try.zeroValue80
  t76 := Try.underlying82
  a76 := Try.isAgg82
  z76 := Try.sizeOf82
  v76 := Try.zeroValue82
  t77 := Try.underlying83
  a77 := Try.isAgg83
  z77 := Try.sizeOf83
  v77 := Try.zeroValue83 }
end Go.Proofs
end

section
/- Items sorted by their order: out of the shelf's contract. -/
namespace Go.Proofs.Vm
open Go Go.Shelf

variable {P : Program} {ρ : Ren}

theorem ltO (x y : Itm) : (ltOf ordI x y = true) ↔ ordI x y < 0 := by simp [ltOf]
theorem swo_ord : Go.Sort.SWO (ltOf ordI) := by
  refine ⟨fun x => ?_, fun x y z h1 h2 => ?_, fun x y z h1 h2 => ?_⟩
  · simp [ltOf, ordI_eq.2 rfl]
  · rw [ltO] at *; exact ordI_trans h1 h2
  · simp only [ltOf, decide_eq_false_iff_not] at *
    have a := ordI_neg x y
    have b := ordI_neg y z
    have c := ordI_neg x z
    have := ordI_le_trans z y x (by omega) (by omega)
    omega

theorem cmp_of {go : FuncId} (hc : ∀ a b : Itm, Ctr P go [.agg (cItm a), .agg (cItm b)] (cI .i64 (ordI a b))) (blk off size : Nat) (w : World) : CmpLays P go #[] encI 2 ordI blk off size w := by
  intro m os dk _ x y
  generalize sortWorldK encI 2 w blk off m dk os = W
  have hv : RKL (fun _ => False) W [.agg (cItm x), .agg (cItm y)] [.agg (encI x).toArray, .agg (encI y).toArray] := by
    have one : ∀ x : Itm, RKs (fun _ => False) W (cItm x) (encI x) := fun x => ⟨rfl, fun j a b ha hb => by
      match j with
      | 0 => cases ha; cases hb; exact .v _ rfl
      | 1 => cases ha; cases hb; exact .v _ rfl
      | j + 2 => simp [cItm] at ha⟩
    refine ⟨rfl, fun j a b ha hb => ?_⟩
    match j with
    | 0 => cases ha; cases hb; exact ⟨_, rfl, one x⟩
    | 1 => cases ha; cases hb; exact ⟨_, rfl, one y⟩
    | j + 2 => simp at ha
  refine (hc x y (fun _ => False) W _ (fun b h => h.elim) hv).mono fun e w' hh => ?_
  obtain ⟨v, I', rfl, h1, h2, h3, h4, h5, h6, h7⟩ := hh
  have ev : v = .int .i64 (ordI x y) := by cases h7; rfl
  subst ev
  refine ⟨rfl, w'.drawn - W.drawn, w'.heap.extract W.heap.size w'.heap.size, ?_⟩
  obtain ⟨⟨a1, a2⟩, a3, a4⟩ := h6
  have hh : w'.heap = W.heap ++ w'.heap.extract W.heap.size w'.heap.size := by
    apply Array.ext_getElem?
    intro i
    by_cases hi : i < W.heap.size
    · rw [Array.getElem?_append_left hi, h5 i hi]
    · rw [Array.getElem?_append_right (by omega), Array.getElem?_extract]
      by_cases hi2 : i < w'.heap.size
      · rw [if_pos (by omega)]
        congr 1; omega
      · rw [if_neg (by omega), Array.getElem?_eq_none (by omega)]
  have hd : w'.drawn = W.drawn + (w'.drawn - W.drawn) := by omega
  obtain ⟨hp, tp, dr, os', ou⟩ := w'
  simp only [Go.Sort.grow, World.drewN] at *
  subst a1; subst a2; subst a3
  rw [← hd, ← hh]

theorem sortsF_of (L : SlLaysF0.n6 P ρ) (aE : ∀ w, (isAgg (ρ.t 24)).run P w = .ok true w) (zE : ∀ w, (Go.sizeOf (ρ.t 24)).run P w = .ok 2 w) {go : FuncId} (eg : ∀ args w, (callFunc go args).run P w = .ok (.enter go args) w)
    (hc : ∀ a b : Itm, Ctr P go [.agg (cItm a), .agg (cItm b)] (cI .i64 (ordI a b))) : SortsF P (ρ.f 6) go ordI := by
  intro blk off cap d w h1 h2 h3
  have h := AnyQ.slices_SortFunc_total L 2 aE zE encI (fun _ => rfl) (fun x v hv => by
    simp only [encI, List.mem_cons, List.not_mem_nil, or_false] at hv
    rcases hv with rfl | rfl <;> rfl) ordI swo_ord go #[] blk off cap d.toArray w eg (cmp_of hc _ _ _ _) h1 h2 (by simpa using h3) (fun x y a b => by
      simp only [ltOf, decide_eq_false_iff_not] at a b
      have := ordI_neg x y
      exact ordI_eq.1 (by omega))
  have e : (fun x y : Itm => !(ltOf ordI) y x) = fun x y => decide (ordI x y ≤ 0) := by
    funext x y
    have := ordI_neg x y
    simp only [ltOf]
    by_cases g : ordI y x < 0
    · simp [g]; omega
    · simp [g]; omega
  simp only [e] at h
  refine Calls.mono ?_ (fun _ _ h => h)
  simpa [isort] using h
theorem sortsF0_of (L : SlLaysF0.n6 P ρ) {go : FuncId} : SortsF0 P (ρ.f 6) go := fun p cap w => AnyF.slices_SortFunc_none L p cap _ w
end Go.Proofs.Vm
end

section
/- The whole table tells the truth of the program. -/
namespace Go.Proofs.YtapkbkbjfekldaaP
open Go Go.Proofs.Vm Go.Proofs.YtapkbkbjfekldaaF
theorem cmpS : CmpS Try.prog 34 := fun a b w => Try.strings_Compare a b w
theorem fnOk34 : FnOk Try.prog 34 := ⟨Try.f34, Try.func34, by kernel_rfl, by kernel_rfl⟩
theorem fnOk24 : FnOk Try.prog 24 := ⟨Try.f24, Try.func24, by kernel_rfl, by kernel_rfl⟩
theorem fnOk23 : FnOk Try.prog 23 := ⟨Try.f23, Try.func23, by kernel_rfl, by kernel_rfl⟩
theorem tvOk : TOk Try.prog TV := TT_ok mixed (cmpTab_ok fnOk34 cmpS)
theorem orderC (a b : Itm) : Ctr Try.prog 25 [.agg (cItm a), .agg (cItm b)] (cI .i64 (ordI a b)) := (tvOk.1 _ _ _ (order a b)).2
theorem enters25 : Enters Try.prog 25 := enters_of Try.func25 (by kernel_rfl) rfl
theorem sorts : SortsF Try.prog 24 25 ordI := sortsF_of Try.laysSortItem (fun w => Try.isAgg28 w) (fun w => Try.sizeOf28 w) enters25 orderC
theorem sorts0 : SortsF0 Try.prog 24 25 := sortsF0_of Try.laysSortItem
theorem clones : Clone0 Try.prog 23 := fun ad cap H => (tvOk.2 _ _ _ _ _ (clone0 ad cap H)).2.2
end Go.Proofs.YtapkbkbjfekldaaP
namespace Go.Proofs.YtapkbkbjfekldaaF
open Go Go.Proofs.Vm Go.Proofs.YtapkbkbjfekldaaP
theorem tvOk : TOk Try.prog TV := TT_ok mixed (itmTab_ok fnOk34 cmpS fnOk24 sorts sorts0 fnOk23 clones)
end Go.Proofs.YtapkbkbjfekldaaF
end

section
/- Heaps of items, and where keys lie: of lists alone. -/
namespace Go.Proofs.Vm

def Nd (m : SM) : Prop := (m.map (·.1)).Nodup

theorem mIx_none {k : ByteArray} : ∀ {m : SM}, mIx k m = none → mget k m = none ∧ k ∉ m.map (·.1)
  | [], _ => ⟨rfl, by simp⟩
  | p :: r, h => by
    unfold mIx at h
    split at h
    · cases h
    · rename_i hk
      have h' : mIx k r = none := by cases hr : mIx k r with | none => rfl | some j => rw [hr] at h; cases h
      obtain ⟨h1, h2⟩ := mIx_none h'
      refine ⟨by unfold mget; rw [if_neg hk]; exact h1, ?_⟩
      simp only [List.map_cons, List.mem_cons, not_or]
      exact ⟨hk, h2⟩
theorem mIx_some {k : ByteArray} : ∀ {m : SM} {j : Nat}, mIx k m = some j → ∃ v, m[j]? = some (k, v) ∧ mget k m = some v
  | [], j, h => by cases h
  | p :: r, j, h => by
    unfold mIx at h
    split at h
    · rename_i hk
      cases h
      exact ⟨p.2, by rw [hk]; rfl, by unfold mget; rw [if_pos hk]⟩
    · rename_i hk
      obtain ⟨j', hj, rfl⟩ := Option.map_eq_some_iff.1 h
      obtain ⟨v, h1, h2⟩ := mIx_some hj
      exact ⟨v, h1, by unfold mget; rw [if_neg hk]; exact h2⟩
theorem mget_append (k k' : ByteArray) (v : Int) : ∀ m : SM, mget k m = none → mget k' (m ++ [(k, v)]) = if k' = k then some v else mget k' m
  | [], _ => by simp [mget]
  | p :: r, h => by
    unfold mget at h
    split at h
    · cases h
    · rename_i hk
      have ih := mget_append k k' v r h
      simp only [List.cons_append, mget]
      by_cases hp : k' = p.1
      · rw [if_pos hp, if_pos hp, if_neg (show ¬ k' = k from fun e => hk (by rw [← e]; exact hp))]
      · rw [if_neg hp, if_neg hp]; exact ih
theorem mget_set (k k' : ByteArray) (v : Int) : ∀ {m : SM} {j : Nat}, mIx k m = some j → mget k' (m.set j (k, v)) = if k' = k then some v else mget k' m
  | [], j, h => by cases h
  | p :: r, j, h => by
    unfold mIx at h
    split at h
    · rename_i hk
      cases h
      simp only [List.set_cons_zero, mget, ← hk]
      split <;> rfl
    · rename_i hk
      obtain ⟨j', hj, rfl⟩ := Option.map_eq_some_iff.1 h
      simp only [List.set_cons_succ, mget]
      by_cases hp : k' = p.1
      · rw [if_pos hp, if_pos hp, if_neg (show ¬ k' = k from fun e => hk (by rw [← e]; exact hp))]
      · rw [if_neg hp, if_neg hp]; exact mget_set k k' v hj
theorem mget_put (k k' : ByteArray) (v : Int) (m : SM) : mget k' (mput k v m) = if k' = k then some v else mget k' m := by
  unfold mput
  split
  · rename_i j h; exact mget_set k k' v h
  · rename_i h; exact mget_append k k' v m (mIx_none h).1
theorem mput_len (k : ByteArray) (v : Int) (m : SM) : (mput k v m).length = if (mget k m).isSome then m.length else m.length + 1 := by
  unfold mput
  split
  · rename_i j h
    obtain ⟨u, _, h2⟩ := mIx_some h
    rw [h2]; simp
  · rename_i h
    rw [(mIx_none h).1]; simp
theorem mput_nd {k : ByteArray} {v : Int} {m : SM} (h : Nd m) : Nd (mput k v m) := by
  unfold mput Nd
  split
  · rename_i j hj
    obtain ⟨u, h1, _⟩ := mIx_some hj
    have hjl := (List.getElem?_eq_some_iff.1 h1).1
    have e : (m.set j (k, v)).map (·.1) = m.map (·.1) := by
      rw [List.map_set]
      apply List.ext_getElem?
      intro i
      rw [List.getElem?_set]
      by_cases hi : j = i
      · subst hi
        rw [if_pos rfl, if_pos (by simpa using hjl), List.getElem?_map, h1]
        rfl
      · rw [if_neg hi]
    rw [e]; exact h
  · rename_i hj
    rw [List.map_append, List.nodup_append]
    refine ⟨h, by simp, fun a ha b hb => ?_⟩
    simp only [List.map_cons, List.map_nil, List.mem_singleton] at hb
    subst hb
    rintro rfl
    exact (mIx_none hj).2 ha
theorem mget_none_of {k : ByteArray} : ∀ {m : SM}, k ∉ m.map (·.1) → mget k m = none
  | [], _ => rfl
  | p :: r, h => by
    simp only [List.map_cons, List.mem_cons, not_or] at h
    unfold mget
    rw [if_neg h.1]
    exact mget_none_of h.2
theorem mget_mem {k : ByteArray} {v : Int} : ∀ {m : SM}, mget k m = some v → k ∈ m.map (·.1)
  | [], h => by cases h
  | p :: r, h => by
    unfold mget at h
    split at h
    · rename_i hk; rw [hk]; simp
    · exact List.mem_cons_of_mem _ (mget_mem h)
theorem mget_erase (k k' : ByteArray) : ∀ {m : SM} {j : Nat}, Nd m → mIx k m = some j → mget k' (m.eraseIdx j) = if k' = k then none else mget k' m
  | [], j, _, h => by cases h
  | p :: r, j, hd, h => by
    unfold Nd at hd
    rw [List.map_cons, List.nodup_cons] at hd
    unfold mIx at h
    split at h
    · rename_i hk
      cases h
      simp only [List.eraseIdx_cons_zero, mget, ← hk]
      by_cases hp : k' = k
      · rw [if_pos hp, hp]; exact mget_none_of (by rw [hk]; exact hd.1)
      · rw [if_neg hp, if_neg hp]
    · rename_i hk
      obtain ⟨j', hj, rfl⟩ := Option.map_eq_some_iff.1 h
      simp only [List.eraseIdx_cons_succ, mget]
      by_cases hp : k' = p.1
      · rw [if_pos hp, if_pos hp, if_neg (show ¬ k' = k from fun e => hk (by rw [← e]; exact hp))]
      · rw [if_neg hp, if_neg hp]; exact mget_erase k k' hd.2 hj
theorem mget_del (k k' : ByteArray) {m : SM} (h : Nd m) : mget k' (mdel k m) = if k' = k then none else mget k' m := by
  unfold mdel
  split
  · rename_i j hj; exact mget_erase k k' h hj
  · rename_i hj
    split
    · rename_i e; rw [e]; exact (mIx_none hj).1
    · rfl
theorem mdel_len {k : ByteArray} {m : SM} (h : (mget k m).isSome = true) : (mdel k m).length + 1 = m.length := by
  unfold mdel
  split
  · rename_i j hj
    obtain ⟨u, h1, _⟩ := mIx_some hj
    have hjl := (List.getElem?_eq_some_iff.1 h1).1
    rw [List.length_eraseIdx, if_pos hjl]; omega
  · rename_i hj
    rw [(mIx_none hj).1] at h; cases h
theorem mdel_nd {k : ByteArray} {m : SM} (h : Nd m) : Nd (mdel k m) := by
  unfold mdel Nd
  split
  · exact (List.Sublist.map _ (List.eraseIdx_sublist _ _)).nodup h
  · exact h

/-! Items, and the heap's order. -/

def swp (l : List Itm) (i k : Nat) : List Itm := match l[i]?, l[k]? with
  | some a, some b => (l.set i b).set k a
  | _, _ => l

theorem swp_len (l : List Itm) (i k : Nat) : (swp l i k).length = l.length := by
  unfold swp; split <;> simp
theorem swp_at {l : List Itm} {i k : Nat} (hi : i < l.length) (hk : k < l.length) (j : Nat) (hj : j < l.length) (hj2 : j < (swp l i k).length) :
    (swp l i k)[j] = if j = k then l[i] else if j = i then l[k] else l[j] := by
  have e : swp l i k = (l.set i l[k]).set k l[i] := by unfold swp; rw [List.getElem?_eq_getElem hi, List.getElem?_eq_getElem hk]
  simp only [e, List.getElem_set]
  by_cases h1 : k = j
  · rw [if_pos h1, if_pos (show j = k from h1.symm)]
  · rw [if_neg h1, if_neg (show ¬ j = k from fun h => h1 h.symm)]
    by_cases h2 : i = j
    · rw [if_pos h2, if_pos (show j = i from h2.symm)]
    · rw [if_neg h2, if_neg (show ¬ j = i from fun h => h2 h.symm)]
theorem swp_perm {l : List Itm} {i k : Nat} (hi : i < l.length) (hk : k < l.length) : (swp l i k).Perm l := by
  have e : swp l i k = (l.set i l[k]).set k l[i] := by unfold swp; rw [List.getElem?_eq_getElem hi, List.getElem?_eq_getElem hk]
  rw [e]
  exact List.set_set_perm hi hk

/-- Where each key lies, the map tells. -/
structure Ix (l : List Itm) (m : SM) : Prop where
  nd : Nd m
  len : m.length = l.length
  at_ : ∀ i, ∀ h : i < l.length, mget l[i].1 m = some (i : Int)
  only : ∀ k v, mget k m = some v → ∃ i, ∃ h : i < l.length, l[i].1 = k
theorem Ix.inj {l : List Itm} {m : SM} (h : Ix l m) {i j : Nat} (hi : i < l.length) (hj : j < l.length) (e : l[i].1 = l[j].1) : i = j := by
  have h1 := h.at_ i hi
  have h2 := h.at_ j hj
  rw [e, h2] at h1
  have := Option.some.inj h1
  omega

section
variable (A : Itm → Itm → Prop)

/-- One stands ahead of the one above it. -/
def Edge (l : List Itm) (j : Nat) : Prop := ∀ h0 : 0 < j, ∀ h : j < l.length, A l[j] (l[(j - 1) / 2]'(by omega))
def HeapOk (l : List Itm) : Prop := ∀ j, Edge A l j
/-- All is well but about place i. -/
structure Almost (l : List Itm) (i : Nat) : Prop where
  far : ∀ j, j ≠ i → (0 < j → (j - 1) / 2 ≠ i) → Edge A l j
  over : ∀ j (_hi : 0 < i) (_hj : 0 < j) (_hp : (j - 1) / 2 = i) (h : j < l.length), A l[j] (l[(i - 1) / 2]'(by omega))

variable {A}
variable (tr : ∀ a b c, A a b → A b c → A a c)
include tr

theorem up_step {l : List Itm} {i : Nat} (h : Almost A l i) (h0 : 0 < i) (hi : i < l.length) (hlt : A (l[(i - 1) / 2]'(by omega)) l[i]) : Almost A (swp l i ((i - 1) / 2)) ((i - 1) / 2) := by
  have hp : (i - 1) / 2 < l.length := by omega
  have hpi : (i - 1) / 2 ≠ i := by omega
  have at_ := fun j (hj : j < l.length) (hj2 : j < (swp l i ((i - 1) / 2)).length) => swp_at hi hp j hj hj2
  refine ⟨fun j hj1 hj2 hj0 hj => ?_, fun j hp0 hj0 hjp hj => ?_⟩
  · have hjl : j < l.length := by rw [swp_len] at hj; exact hj
    have hj2 := hj2 hj0
    have hjpl : (j - 1) / 2 < l.length := by omega
    rw [at_ j hjl, at_ _ hjpl, if_neg hj1, if_neg hj2]
    have hji : j ≠ i := by rintro rfl; exact hj2 rfl
    rw [if_neg hji]
    by_cases hc : (j - 1) / 2 = i
    · rw [if_pos hc]
      exact h.over j h0 hj0 hc hjl
    · rw [if_neg hc]
      exact h.far j hji (fun _ => hc) hj0 hjl
  · have hjl : j < l.length := by rw [swp_len] at hj; exact hj
    have hjpl : ((i - 1) / 2 - 1) / 2 < l.length := by omega
    rw [at_ j hjl, at_ _ hjpl, if_neg (show j ≠ (i - 1) / 2 by omega), if_neg (show ((i - 1) / 2 - 1) / 2 ≠ (i - 1) / 2 by omega), if_neg (show ((i - 1) / 2 - 1) / 2 ≠ i by omega)]
    have ep : A l[(i - 1) / 2] l[((i - 1) / 2 - 1) / 2] := h.far _ hpi (fun _ => by omega) hp0 hp
    by_cases hji : j = i
    · rw [if_pos hji]; exact ep
    · rw [if_neg hji]
      have := h.far j hji (fun _ => by omega) hj0 hjl
      simp only [hjp] at this
      exact tr _ _ _ this ep

omit tr in
theorem heap_of_up {l : List Itm} {i : Nat} (h : Almost A l i) (he : Edge A l i) : ∀ j, (0 < j → (j - 1) / 2 ≠ i) → Edge A l j := by
  intro j hj
  by_cases hji : j = i
  · rw [hji]; exact he
  · exact h.far j hji hj

omit tr in
/-- One sinks below the later one of those under it. -/
theorem down_step {l : List Itm} {i t : Nat} (h : Almost A l i) (he : Edge A l i) (hi : i < l.length) (ht : t < l.length) (ht0 : 0 < t) (htp : (t - 1) / 2 = i) (hlt : A l[i] l[t])
    (hoth : ∀ c, 0 < c → (c - 1) / 2 = i → c ≠ t → ∀ hc : c < l.length, A l[c] l[t]) : Almost A (swp l i t) t ∧ Edge A (swp l i t) t := by
  have hti : t ≠ i := by omega
  have at_ := fun j (hj : j < l.length) (hj2 : j < (swp l i t).length) => swp_at hi ht j hj hj2
  refine ⟨⟨fun j hj1 hj2 hj0 hj => ?_, fun j hp0 hj0 hjp hj => ?_⟩, fun h0 hj => ?_⟩
  · have hjl : j < l.length := by rw [swp_len] at hj; exact hj
    have hj2 := hj2 hj0
    have hjpl : (j - 1) / 2 < l.length := by omega
    rw [at_ j hjl, at_ _ hjpl, if_neg hj1, if_neg hj2]
    by_cases hji : j = i
    · subst hji
      rw [if_pos rfl, if_neg (by omega)]
      exact h.over t hj0 ht0 htp ht
    · rw [if_neg hji]
      by_cases hc : (j - 1) / 2 = i
      · rw [if_pos hc]
        exact hoth j hj0 hc hj1 hjl
      · rw [if_neg hc]
        exact h.far j hji (fun _ => hc) hj0 hjl
  · have hjl : j < l.length := by rw [swp_len] at hj; exact hj
    have hjpl : (t - 1) / 2 < l.length := by omega
    rw [at_ j hjl, at_ _ hjpl, if_neg (show j ≠ t by omega), if_neg (show (t - 1) / 2 ≠ t by omega), if_neg (show j ≠ i by omega), if_pos htp]
    have := h.far j (by omega) (fun _ => by omega) hj0 hjl
    simp only [hjp] at this
    exact this
  · have hjpl : (t - 1) / 2 < l.length := by omega
    rw [at_ t ht, at_ _ hjpl, if_pos rfl, if_neg (show (t - 1) / 2 ≠ t by omega), if_pos htp]
    exact hlt
omit tr in
theorem down_end {l : List Itm} {i : Nat} (h : Almost A l i) (he : Edge A l i) (hch : ∀ c, 0 < c → (c - 1) / 2 = i → Edge A l c) : HeapOk A l := by
  intro j hj0
  by_cases hji : j = i
  · subst hji; exact he hj0
  · by_cases hp : (j - 1) / 2 = i
    · exact hch j hj0 hp hj0
    · exact h.far j hji (fun _ => hp) hj0
/-- A place of a heap is changed. -/
theorem almost_set {l : List Itm} {i : Nat} {x : Itm} (h : HeapOk A l) : Almost A (l.set i x) i := by
  refine ⟨fun j hj1 hj2 hj0 hj => ?_, fun j hp0 hj0 hjp hj => ?_⟩
  · have hjl : j < l.length := by simpa using hj
    rw [List.getElem_set_ne (fun e => hj1 e.symm), List.getElem_set_ne (fun e => hj2 hj0 e.symm)]
    exact h j hj0 hjl
  · have hjl : j < l.length := by simpa using hj
    rw [List.getElem_set_ne (by omega), List.getElem_set_ne (by omega)]
    have h1 := h j hj0 hjl
    have h2 := h i hp0 (by omega)
    simp only [hjp] at h1
    exact tr _ _ _ h1 h2
omit tr in
/-- One comes at the end. -/
theorem almost_push {l : List Itm} {x : Itm} (h : HeapOk A l) : Almost A (l ++ [x]) l.length := by
  refine ⟨fun j hj1 hj2 hj0 hj => ?_, fun j hp0 hj0 hjp hj => ?_⟩
  · have hjl : j < l.length := by rw [List.length_append, List.length_singleton] at hj; omega
    have hpl : (j - 1) / 2 < l.length := by omega
    rw [List.getElem_append_left hjl, List.getElem_append_left hpl]
    exact h j hj0 hjl
  · rw [List.length_append, List.length_singleton] at hj
    omega
end

/-- Two change places, and the map is told. -/
theorem ix_swp {l : List Itm} {m : SM} (h : Ix l m) {i k : Nat} (hi : i < l.length) (hk : k < l.length) : Ix (swp l i k) (mput l[i].1 (k : Int) (mput l[k].1 (i : Int) m)) := by
  have g1 := h.at_ i hi
  have g2 := h.at_ k hk
  have e1 : mget l[i].1 (mput l[k].1 (i : Int) m) = some (i : Int) := by rw [mget_put]; split <;> simp [g1]
  refine ⟨mput_nd (mput_nd h.nd), ?_, fun j hj => ?_, fun k' v hg => ?_⟩
  · rw [swp_len, mput_len, e1, mput_len, g2]
    exact h.len
  · have hjl : j < l.length := by rw [swp_len] at hj; exact hj
    rw [swp_at hi hk j hjl hj, mget_put, mget_put]
    by_cases h1 : j = k
    · rw [if_pos h1, if_pos rfl, h1]
    · rw [if_neg h1]
      by_cases h2 : j = i
      · rw [if_pos h2]
        have : l[k].1 ≠ l[i].1 := fun e => h1 (by rw [h2]; exact (h.inj hk hi e).symm)
        rw [if_neg this, if_pos rfl, h2]
      · rw [if_neg h2, if_neg (show ¬ l[j].1 = l[i].1 from fun e => h2 (h.inj hjl hi e)), if_neg (show ¬ l[j].1 = l[k].1 from fun e => h1 (h.inj hjl hk e))]
        exact h.at_ j hjl
  · have hex : ∃ j, ∃ h : j < l.length, l[j].1 = k' := by
      rw [mget_put, mget_put] at hg
      split at hg
      · rename_i e; exact ⟨i, hi, e.symm⟩
      · split at hg
        · rename_i e; exact ⟨k, hk, e.symm⟩
        · exact h.only k' v hg
    obtain ⟨j, hj, e⟩ := hex
    by_cases h1 : j = i
    · refine ⟨k, by rw [swp_len]; exact hk, ?_⟩
      rw [swp_at hi hk k hk, if_pos rfl, ← e]
      subst h1; rfl
    · by_cases h2 : j = k
      · refine ⟨i, by rw [swp_len]; exact hi, ?_⟩
        rw [swp_at hi hk i hi]
        subst h2
        rw [if_neg (show ¬ i = j from fun x => h1 x.symm), if_pos rfl, e]
      · refine ⟨j, by rw [swp_len]; exact hj, ?_⟩
        rw [swp_at hi hk j hj, if_neg h2, if_neg h1, e]
/-- A key that is nowhere. -/
theorem ix_none {l : List Itm} {m : SM} (h : Ix l m) {k : ByteArray} (hk : ∀ i, ∀ h : i < l.length, l[i].1 ≠ k) : mget k m = none := by
  cases hg : mget k m with
  | none => rfl
  | some v =>
    obtain ⟨i, hi, e⟩ := h.only k v hg
    exact absurd e (hk i hi)
theorem ix_some {l : List Itm} {m : SM} (h : Ix l m) {k : ByteArray} {v : Int} (hg : mget k m = some v) : ∃ i, ∃ hi : i < l.length, l[i].1 = k ∧ v = (i : Int) := by
  obtain ⟨i, hi, e⟩ := h.only k v hg
  have := h.at_ i hi
  rw [e, hg] at this
  exact ⟨i, hi, e, Option.some.inj this⟩
/-- One comes at the end. -/
theorem ix_push {l : List Itm} {m : SM} (h : Ix l m) {k : ByteArray} {c : Int} (hk : mget k m = none) : Ix (l ++ [(k, c)]) (mput k (l.length : Int) m) := by
  refine ⟨mput_nd h.nd, ?_, fun j hj => ?_, fun k' v hg => ?_⟩
  · rw [mput_len, hk, List.length_append, List.length_singleton, h.len]; rfl
  · rw [mget_put]
    by_cases hjl : j < l.length
    · rw [List.getElem_append_left hjl]
      have : ¬ l[j].1 = k := fun e => by have := h.at_ j hjl; rw [e, hk] at this; cases this
      rw [if_neg this]
      exact h.at_ j hjl
    · have hje : j = l.length := by rw [List.length_append, List.length_singleton] at hj; omega
      subst hje
      rw [List.getElem_append_right (Nat.le_refl _)]
      simp
  · rw [mget_put] at hg
    split at hg
    · rename_i e
      refine ⟨l.length, by simp, ?_⟩
      rw [List.getElem_append_right (Nat.le_refl _)]
      simp [e]
    · obtain ⟨i, hi, e⟩ := h.only k' v hg
      exact ⟨i, by rw [List.length_append]; omega, by rw [List.getElem_append_left hi]; exact e⟩
/-- A count is another one. -/
theorem ix_count {l : List Itm} {m : SM} (h : Ix l m) {i : Nat} (hi : i < l.length) (c : Int) : Ix (l.set i (l[i].1, c)) m := by
  have key : ∀ j, ∀ hj : j < l.length, ∀ hj2 : j < (l.set i (l[i].1, c)).length, (l.set i (l[i].1, c))[j].1 = l[j].1 := fun j hj hj2 => by
    rw [List.getElem_set]
    split
    · rename_i e; subst e; rfl
    · rfl
  refine ⟨h.nd, by rw [List.length_set]; exact h.len, fun j hj => ?_, fun k v hg => ?_⟩
  · have hjl : j < l.length := by simpa using hj
    rw [key j hjl hj]
    exact h.at_ j hjl
  · obtain ⟨j, hj, e⟩ := h.only k v hg
    exact ⟨j, by simpa using hj, by rw [key j hj]; exact e⟩
/-- The one on top goes, and another one is put there. -/
theorem ix_top {l : List Itm} {m : SM} (h : Ix l m) (h0 : 0 < l.length) {k : ByteArray} {c : Int} (hk : mget k m = none) : Ix (l.set 0 (k, c)) (mput k 0 (mdel l[0].1 m)) := by
  have g0 := h.at_ 0 h0
  have hk0 : ¬ k = l[0].1 := fun e => by rw [e, g0] at hk; cases hk
  have e1 : mget k (mdel l[0].1 m) = none := by rw [mget_del _ _ h.nd, if_neg hk0]; exact hk
  refine ⟨mput_nd (mdel_nd h.nd), ?_, fun j hj => ?_, fun k' v hg => ?_⟩
  · rw [mput_len, e1, List.length_set]
    have := mdel_len (k := l[0].1) (m := m) (by rw [g0]; rfl)
    simp only [Option.isSome_none, Bool.false_eq_true, if_false]
    rw [this]; exact h.len
  · have hjl : j < l.length := by simpa using hj
    rw [mget_put, mget_del _ _ h.nd]
    by_cases hj0 : j = 0
    · subst hj0
      rw [List.getElem_set_self, if_pos rfl]
      rfl
    · rw [List.getElem_set_ne (fun e => hj0 e.symm)]
      have h1 : ¬ l[j].1 = k := fun e => by have := h.at_ j hjl; rw [e, hk] at this; cases this
      have h2 : ¬ l[j].1 = l[0].1 := fun e => hj0 (h.inj hjl h0 e)
      rw [if_neg h1, if_neg h2]
      exact h.at_ j hjl
  · rw [mget_put, mget_del _ _ h.nd] at hg
    split at hg
    · rename_i e
      exact ⟨0, by simpa using h0, by rw [List.getElem_set_self]; exact e.symm⟩
    · rename_i e
      split at hg
      · cases hg
      · rename_i e2
        obtain ⟨i, hi, ei⟩ := h.only k' v hg
        have hi0 : i ≠ 0 := by rintro rfl; exact e2 ei.symm
        exact ⟨i, by simpa using hi, by rw [List.getElem_set_ne (fun e => hi0 e.symm)]; exact ei⟩
end Go.Proofs.Vm
end

section
/- A heap's inner steps: which of two stands ahead, two change places. -/
namespace Go.Proofs.YtapkbkbjfekldaaF
open Go Go.Proofs.Vm

/-- A heap in its three places. -/
def hH (K : Hp) (hi si mi : Nat) (room : Int) (l : List Itm) (M : MS) (L : Hp) : Hp :=
  hq K si mi hi (.clo (l.map cItm) false) M.ent (.opn [[.c (.v (.int .i64 room)), .sl si 0 l.length l.length, .mp mi]] false) L
def hP (hi : Nat) : AV := .one (.ptr ⟨hi, 0, 0, 1⟩)

theorem wr_item (l : List Itm) (i : Nat) (a : ByteArray) (n : Int) : Ent.wrC (l.map cItm) i 0 [.v (.string a), .v (.int .i64 n)] = (l.set i (a, n)).map cItm := by
  unfold Ent.wrC
  apply List.ext_getElem?
  intro j
  rw [List.getElem?_modify, List.getElem?_map, List.getElem?_map, List.getElem?_set]
  by_cases h : i = j
  · subst h
    cases hl : l[i]? with
    | none =>
      have := List.getElem?_eq_none_iff.1 hl
      simp; omega
    | some x =>
      have := (List.getElem?_eq_some_iff.1 hl).1
      simp [cItm, wr, this]
  · simp [h]
theorem wr_count {l : List Itm} {i : Nat} (h : i < l.length) (n : Int) : Ent.wrC (l.map cItm) i 1 [.v (.int .i64 n)] = (l.set i (l[i].1, n)).map cItm := by
  unfold Ent.wrC
  apply List.ext_getElem?
  intro j
  rw [List.getElem?_modify, List.getElem?_map, List.getElem?_map, List.getElem?_set]
  by_cases hj : i = j
  · subst hj
    simp [cItm, wr, h]
  · simp [hj]

section
variable {K : Hp} {hi si mi : Nat} (t : Three K si mi hi) {room : Int} {l : List Itm} {M : MS} {L : Hp}
include t

theorem above {i k : Nat} (h1 : i < l.length) (h2 : k < l.length) :
    TV.S 26 [hP hi, vI .i64 i, vI .i64 k] (hH K hi si mi room l M L) = some (vB (decide (ordI l[i] l[k] > 0)), hH K hi si mi room l M L) := by
  refine run26 (by simp) (Nat.le_refl _) ?_
  have ga := fun x y z L => hq_a t x y z L
  have gb := fun x y z L => hq_b t x y z L
  have gc := fun x y z L => hq_c t x y z L
  have ho := order l[i] l[k]
  simp only [cItm] at ho
  simp -implicitDefEqProofs [Try.f26, vnil, isPtr, fresh, cellsAt, cItm, hP, hH, ga, gc, h1, h2, ho]
theorem swap {i k : Nat} (h1 : i < l.length) (h2 : k < l.length) (hx : Ix l M.m) (ok : M.Ok) :
    TV.S 29 [hP hi, vI .i64 i, vI .i64 k] (hH K hi si mi room l M L) = some (und, hH K hi si mi room (swp l i k) ((M.put l[k].1 i).put l[i].1 k) L) := by
  refine run29 (by simp) (by simp [hH, hq_len]) ?_
  have ga := fun x y z L => hq_a t x y z L
  have gb := fun x y z L => hq_b t x y z L
  have gc := fun x y z L => hq_c t x y z L
  have sa := fun x y z u L => hq_sa t x y z u L
  have sb := fun x y z u L => hq_sb t x y z u L
  have sc := fun x y z u L => hq_sc t x y z u L
  have g1 := hx.at_ i h1
  have g2 := hx.at_ k h2
  have ok1 := MS.put_ok ok l[k].1 i
  have e1 : mget l[i].1 (mput l[k].1 (i : Int) M.m) = some (i : Int) := by rw [mget_put]; split <;> simp [g1]
  have hsw : (l.set i l[k]).set k l[i] = swp l i k := by unfold swp; rw [List.getElem?_eq_getElem h1, List.getElem?_eq_getElem h2]
  have s1 : ∀ h, (swp l i k)[i]'h = l[k] := fun h => by
    rw [swp_at h1 h2 i h1]
    split
    · rename_i e; subst e; rfl
    · rw [if_pos rfl]
  have s2 : ∀ h, (swp l i k)[k]'h = l[i] := fun h => by rw [swp_at h1 h2 k h2, if_pos rfl]
  have i1 : (mget l[k].1 M.m).isSome = true := by rw [g2]; rfl
  have i2 : (mget l[i].1 (M.put l[k].1 i).m).isSome = true := by rw [MS.put_m, e1]; rfl
  have m1 := fun (H : Hp) h => me_eq (H := H) (mi := mi) mty44 ok h i1
  have m2 := fun (H : Hp) h => es_eq (H := H) (mi := mi) (v := (i : Int)) ok h i1
  have m3 := fun (H : Hp) h => me_eq (H := H) (mi := mi) mty44 ok1 h i2
  have m4 := fun (H : Hp) h => es_eq (H := H) (mi := mi) (v := (k : Int)) ok1 h i2
  simp -implicitDefEqProofs [-List.map_set, s1, s2, Try.f29, vnil, isPtr, fresh, cellsAt, cItm, hP, hH, ga, gb, gc, sa, sb, h1, h2, vstore, cellsOf?, mapO, fzc, rch, frzAll, wr_item, hsw, swp_len, g2, m1, m2, m3, m4]
  rfl
end
end Go.Proofs.YtapkbkbjfekldaaF
end

section
/- One rises, one sinks. -/
namespace Go.Proofs.YtapkbkbjfekldaaF
open Go Go.Proofs.Vm

/-- One stands not behind another. -/
def Ah (x y : Itm) : Prop := ordI x y ≤ 0

section
variable {K : Hp} {hi si mi : Nat} (t : Three K si mi hi) {room : Int} {l : List Itm} {M : MS} {L : Hp}
include t

theorem up {i : Nat} (h1 : i < l.length) (hx : Ix l M.m) (ok : M.Ok) (ha : Almost Ah l i) (hl : l.length < 1000) :
    ∃ a K', TV.S 22 [hP hi, vI .i64 i] (hH K hi si mi room l M L) = some (a, K') ∧ ∃ (r : Nat) (l' : List Itm) (M' : MS), a = vI .i64 r ∧ K' = hH K hi si mi room l' M' L ∧ l'.Perm l ∧ Ix l' M'.m ∧ M'.Ok ∧ r < l'.length ∧ Almost Ah l' r ∧ Vm.Edge Ah l' r := by
  refine runX22 (by simp) (by rintro a K' ⟨r, l', M', -, rfl, -⟩; simp [hH, hq_len]) ?_
  simp -implicitDefEqProofs [Try.f22]
  obtain ⟨I, hI⟩ : ∃ I : Nat → St → Prop, ∀ k s', I k s' ↔ (∃ e l' M', s' = ⟨e, hH K hi si mi room l' M' L⟩ ∧ e 0 = hP hi ∧ e 1 = vI .i64 (k : Nat) ∧ l'.Perm l ∧ Ix l' M'.m ∧ M'.Ok ∧ k < l'.length ∧ Almost Ah l' k) := ⟨_, fun _ _ => Iff.rfl⟩
  refine wpL_ind I ?_ i _ ((hI _ _).2 ⟨_, l, M, rfl, by simp, by simp, .refl _, hx, ok, h1, ha⟩)
  intro k st hst
  obtain ⟨e, l', M', rfl, e0, e1, hp, hx', ok', hk, hal⟩ := (hI _ _).1 hst
  have hlen : l'.length = l.length := hp.length_eq
  by_cases c : k = 0
  · subst c
    simp -implicitDefEqProofs [e1]
    exact ⟨0, rfl, l', M', rfl, hp, hx', ok', hk, hal, fun h => absurd h (Nat.lt_irrefl _)⟩
  · have c' : 0 < (k : Int) := by omega
    have c2 : 0 < k := by omega
    have hq2 := fun (H : Hp) (t : TypeId) (x y : Operand) => bin_half (P := Try.prog) (H := H) (t := t) (x := x) (y := y) (k := k - 1) (by omega)
    have w1 : IntKind.i64.wrap ((k : Int) - 1) = ((k - 1 : Nat) : Int) := by rw [w64_id (by omega) (by omega)]; omega
    have hpar : (k - 1) / 2 < l'.length := by omega
    have hst' := fun (hlt : Ah (l'[(k - 1) / 2]'hpar) l'[k]) => up_step (A := Ah) ordI_le_trans hal c2 hk hlt
    have hdn : ¬ Ah l'[k] (l'[(k - 1) / 2]'hpar) ∨ Vm.Edge Ah l' k := by
      by_cases hh : Ah l'[k] (l'[(k - 1) / 2]'hpar)
      · exact .inr fun _ _ => hh
      · exact .inl hh
    have hle : (k - 1) / 2 < k := by omega
    generalize hpd : (k - 1) / 2 = p at *
    have hab := above t (room := room) (M := M') (L := L) hk hpar
    have hsw := swap t (room := room) (L := L) hk hpar hx' ok'
    by_cases d : ordI l'[k] l'[p] > 0
    · have d' : 0 < ordI l'[k] l'[p] := d
      simp -implicitDefEqProofs [e0, e1, c2, w1, hq2, hab, hsw, d']
      have hn := ordI_neg l'[k] l'[p]
      exact ⟨p, hle, (hI _ _).2 ⟨_, swp l' k p, _, rfl, by simp [e0], by simp, (swp_perm hk hpar).trans hp, by rw [MS.put_m, MS.put_m]; exact ix_swp hx' hk hpar, MS.put_ok (MS.put_ok ok' _ _) _ _, by rw [swp_len]; exact hpar, hst' (by unfold Ah; omega)⟩⟩
    · have d' : ¬ 0 < ordI l'[k] l'[p] := d
      simp -implicitDefEqProofs [e0, e1, c2, w1, hq2, hab, d']
      have he : Vm.Edge Ah l' k := by
        rcases hdn with hdn | hdn
        · exact absurd (show Ah l'[k] l'[p] by unfold Ah; omega) hdn
        · exact hdn
      exact ⟨k, rfl, l', M', rfl, hp, hx', ok', hk, hal, he⟩
theorem down {i : Nat} (h1 : i < l.length) (hx : Ix l M.m) (ok : M.Ok) (ha : Almost Ah l i) (hed : Vm.Edge Ah l i) (hl : l.length < 1000) :
    ∃ a K', TV.S 21 [hP hi, vI .i64 i] (hH K hi si mi room l M L) = some (a, K') ∧ ∃ (l' : List Itm) (M' : MS), a = und ∧ K' = hH K hi si mi room l' M' L ∧ l'.Perm l ∧ Ix l' M'.m ∧ M'.Ok ∧ HeapOk Ah l' := by
  refine runX21 (by simp) (by rintro a K' ⟨l', M', -, rfl, -⟩; simp [hH, hq_len]) ?_
  simp -implicitDefEqProofs [Try.f21]
  obtain ⟨I, hI⟩ : ∃ I : Nat → St → Prop, ∀ k s', I k s' ↔ (∃ e l' M' i, s' = ⟨e, hH K hi si mi room l' M' L⟩ ∧ e 0 = hP hi ∧ e 1 = vI .i64 (i : Nat) ∧ l'.Perm l ∧ Ix l' M'.m ∧ M'.Ok ∧ i < l'.length ∧ k = l.length - i ∧ Almost Ah l' i ∧ Vm.Edge Ah l' i) := ⟨_, fun _ _ => Iff.rfl⟩
  refine wpL_ind I ?_ (l.length - i) _ ((hI _ _).2 ⟨_, l, M, i, rfl, by simp, by simp, .refl _, hx, ok, h1, rfl, ha, hed⟩)
  intro k st hst
  obtain ⟨e, l', M', i, rfl, e0, e1, hp, hx', ok', hk, rfl, hal, he⟩ := (hI _ _).1 hst
  have hlen : l'.length = l.length := hp.length_eq
  have w1 : IntKind.i64.wrap (2 * (i : Int)) = ((2 * i : Nat) : Int) := by rw [w64_id (by omega) (by omega)]; omega
  have w2 : IntKind.i64.wrap (2 * (i : Int) + 1) = ((2 * i + 1 : Nat) : Int) := by rw [w64_id (by omega) (by omega)]; omega
  have w3 : IntKind.i64.wrap (2 * (i : Int) + 2) = ((2 * i + 2 : Nat) : Int) := by rw [w64_id (by omega) (by omega)]; omega
  have hdi := ordI_neg
  have htop : ∀ t' : Nat, ∀ ht : t' < l'.length, t' ≠ i → (t' - 1) / 2 = i → 0 < t' → Ah l'[i] l'[t'] → (∀ c, 0 < c → (c - 1) / 2 = i → ∀ hc : c < l'.length, Ah l'[c] l'[t']) → Almost Ah (swp l' i t') t' ∧ Vm.Edge Ah (swp l' i t') t' := fun t' ht _ hp0 h0 hlt hoth => down_step hal he hk ht h0 hp0 hlt fun c c0 cp _ hc => hoth c c0 cp hc
  have hend : (∀ c, 0 < c → (c - 1) / 2 = i → ∀ hc : c < l'.length, Ah l'[c] l'[i]) → HeapOk Ah l' := fun h => down_end hal he fun c c0 cp h0 hc => by
    have := h c c0 cp hc
    simp only [cp]
    exact this
  simp -implicitDefEqProofs [e1, w1, w2]
  obtain ⟨J, hJ⟩ : ∃ J : Nat → St → Prop, ∀ k s', J k s' ↔ (∃ e' t' kk, s' = ⟨e', hH K hi si mi room l' M' L⟩ ∧ e' 0 = hP hi ∧ e' 1 = vI .i64 (i : Nat) ∧ e' 4 = vI .i64 (t' : Nat) ∧ e' 5 = vI .i64 (kk : Nat) ∧ k = 2 * i + 3 - kk ∧ 2 * i + 1 ≤ kk ∧ kk ≤ 2 * i + 3 ∧ (t' = i ∨ 0 < t' ∧ (t' - 1) / 2 = i) ∧
      ∃ ht : t' < l'.length, Ah l'[i] l'[t'] ∧ ∀ c, 2 * i + 1 ≤ c → c < kk → ∀ hc : c < l'.length, Ah l'[c] l'[t']) := ⟨_, fun _ _ => Iff.rfl⟩
  have hrefl : Ah l'[i] l'[i] := by unfold Ah; rw [ordI_eq.2 rfl]; decide
  refine wpL_ind J ?_ 2 _ ((hJ _ _).2 ⟨_, i, 2 * i + 1, rfl, by simp [e0], by simp [e1], by simp, by simp, by omega, by omega, by omega, .inl rfl, hk, hrefl, fun c h1 h2 => by omega⟩)
  intro k st hst
  obtain ⟨e', t', kk, rfl, f0, f1, f4, f5, rfl, k1, k2, htp, htl, hit, hall⟩ := (hJ _ _).1 hst
  have w4 : IntKind.i64.wrap ((kk : Int) + 1) = ((kk + 1 : Nat) : Int) := by rw [w64_id (by omega) (by omega)]; omega
  have ga := fun x y z L => hq_a t x y z L
  have gc := fun x y z L => hq_c t x y z L
  by_cases hgo : kk ≤ 2 * i + 2 ∧ kk < l'.length
  · obtain ⟨c1, c2⟩ := hgo
    have c1' : (kk : Int) ≤ 2 * (i : Int) + 2 := by omega
    have hab := above t (room := room) (M := M') (L := L) c2 htl
    simp only [hH, hP] at hab
    by_cases d : 0 < ordI l'[kk] l'[t']
    · simp -implicitDefEqProofs [f0, f1, f4, f5, hP, hH, vnil, isPtr, fresh, cellsAt, ga, gc, w1, w3, c1', c2, hab, d, w4]
      have hn := ordI_neg l'[kk] l'[t']
      have hle : Ah l'[t'] l'[kk] := by unfold Ah; omega
      refine ⟨2 * i + 3 - (kk + 1), by omega, (hJ _ _).2 ⟨_, kk, kk + 1, rfl, by simp [f0, hP], by simp [f1], by simp, by simp, rfl, by omega, by omega, .inr ⟨by omega, by omega⟩, c2, ordI_le_trans _ _ _ hit hle, fun c h1 h2 hc => ?_⟩⟩
      by_cases hck : c = kk
      · subst hck; unfold Ah; rw [ordI_eq.2 rfl]; decide
      · exact ordI_le_trans _ _ _ (hall c h1 (by omega) hc) hle
    · simp -implicitDefEqProofs [f0, f1, f4, f5, hP, hH, vnil, isPtr, fresh, cellsAt, ga, gc, w1, w3, c1', c2, hab, d, w4]
      refine ⟨2 * i + 3 - (kk + 1), by omega, (hJ _ _).2 ⟨_, t', kk + 1, rfl, by simp [f0, hP], by simp [f1], by simp [f4], by simp, rfl, by omega, by omega, htp, htl, hit, fun c h1 h2 hc => ?_⟩⟩
      by_cases hck : c = kk
      · subst hck; unfold Ah; omega
      · exact hall c h1 (by omega) hc
  · have hlast : ∀ c, 0 < c → (c - 1) / 2 = i → ∀ hc : c < l'.length, Ah l'[c] l'[t'] := fun c c0 cp hc => hall c (by omega) (by omega) hc
    have hsw := swap t (room := room) (L := L) hk htl hx' ok'
    simp only [hH, hP] at hsw
    by_cases d : t' = i
    · subst d
      by_cases c1 : (kk : Int) ≤ 2 * (t' : Int) + 2
      · have c2 : ¬ kk < l'.length := fun h => hgo ⟨by omega, h⟩
        simp -implicitDefEqProofs [f0, f1, f4, f5, hP, hH, vnil, isPtr, fresh, cellsAt, ga, gc, w1, w3, c1, c2]
        exact ⟨rfl, l', M', rfl, hp, hx', ok', hend hlast⟩
      · simp -implicitDefEqProofs [f1, f4, f5, hH, w1, w3, c1]
        exact ⟨rfl, l', M', rfl, hp, hx', ok', hend hlast⟩
    · have d' : ¬ (t' : Int) = (i : Int) := by omega
      have d2 : 0 < t' ∧ (t' - 1) / 2 = i := by rcases htp with h | h; · exact absurd h d
                                                exact h
      have hnew := htop t' htl d d2.2 d2.1 hit hlast
      by_cases c1 : (kk : Int) ≤ 2 * (i : Int) + 2
      · have c2 : ¬ kk < l'.length := fun h => hgo ⟨by omega, h⟩
        simp -implicitDefEqProofs [f0, f1, f4, f5, hP, hH, vnil, isPtr, fresh, cellsAt, ga, gc, w1, w3, c1, c2, d', hsw]
        exact ⟨l.length - t', by omega, (hI _ _).2 ⟨_, swp l' i t', _, t', rfl, by simp [f0, hP], by simp, (swp_perm hk htl).trans hp, by rw [MS.put_m, MS.put_m]; exact ix_swp hx' hk htl, MS.put_ok (MS.put_ok ok' _ _) _ _, by rw [swp_len]; exact htl, rfl, hnew.1, hnew.2⟩⟩
      · simp -implicitDefEqProofs [f0, f1, f4, f5, hP, hH, w1, w3, c1, d', hsw]
        exact ⟨l.length - t', by omega, (hI _ _).2 ⟨_, swp l' i t', _, t', rfl, by simp [f0, hP], by simp, (swp_perm hk htl).trans hp, by rw [MS.put_m, MS.put_m]; exact ix_swp hx' hk htl, MS.put_ok (MS.put_ok ok' _ _) _ _, by rw [swp_len]; exact htl, rfl, hnew.1, hnew.2⟩⟩
end
end Go.Proofs.YtapkbkbjfekldaaF
end

section
/- An offer to a heap. -/
namespace Go.Proofs.YtapkbkbjfekldaaF
open Go Go.Proofs.Vm

structure Inv (l : List Itm) (M : MS) : Prop where
  ix : Ix l M.m
  ok : M.Ok
  hp : HeapOk Ah l

/-- What an offer does to the items, but for where they lie. -/
def OfferR (room : Int) (l : List Itm) (key : ByteArray) (count : Int) (b : Bool) (l' : List Itm) : Prop :=
  (∃ i, ∃ h : i < l.length, l[i].1 = key ∧ b = true ∧ l'.Perm (l.set i (key, count))) ∨
  ((∀ i, ∀ h : i < l.length, l[i].1 ≠ key) ∧ (((l.length : Int) < room ∧ b = true ∧ l'.Perm (l ++ [(key, count)])) ∨
    (¬ (l.length : Int) < room ∧ ∃ h0 : 0 < l.length, (l[0].2 < count ∧ b = true ∧ l'.Perm (l.set 0 (key, count))) ∨ (¬ l[0].2 < count ∧ b = false ∧ l' = l))))

section
variable {K : Hp} {hi si mi : Nat} (t : Three K si mi hi) {room : Int} {l : List Itm} {M : MS} {L : Hp}
include t

theorem settle {i : Nat} (h1 : i < l.length) (hx : Ix l M.m) (ok : M.Ok) (ha : Almost Ah l i) (hl : l.length < 1000) :
    ∃ (r : Nat) (l1 : List Itm) (M1 : MS) (l' : List Itm) (M' : MS), TV.S 22 [hP hi, vI .i64 i] (hH K hi si mi room l M L) = some (vI .i64 r, hH K hi si mi room l1 M1 L) ∧
      TV.S 21 [hP hi, vI .i64 r] (hH K hi si mi room l1 M1 L) = some (und, hH K hi si mi room l' M' L) ∧ l'.Perm l ∧ Inv l' M' := by
  obtain ⟨a, K', e1, r, l1, M1, rfl, rfl, p1, x1, o1, hr, al1, ed1⟩ := up t (room := room) (L := L) h1 hx ok ha hl
  obtain ⟨a, K', e2, l', M', rfl, rfl, p2, x2, o2, hp⟩ := down t (room := room) (L := L) hr x1 o1 al1 ed1 (by rw [p1.length_eq]; exact hl)
  exact ⟨r, l1, M1, l', M', e1, e2, p2.trans p1, x2, o2, hp⟩

set_option maxRecDepth 20000 in
theorem offer (hr1 : 1 ≤ room) (hv : Inv l M) (hl : l.length < 500) (key : ByteArray) (count : Int) :
    ∃ a K', TV.S 11 [hP hi, vS key, vI .i64 count] (hH K hi si mi room l M L) = some (a, K') ∧ ∃ b l' M' G, a = vB b ∧ K' = hH K hi si mi room l' M' (L ++ G) ∧ Inv l' M' ∧ OfferR room l key count b l' := by
  refine runX11 (by simp) (by rintro a K' ⟨b, l', M', G, -, rfl, -⟩; simp [hH, hq_len]) ?_
  obtain ⟨hx, ok, hh⟩ := hv
  have ga := fun x y z L => hq_a t x y z L
  have gb := fun x y z L => hq_b t x y z L
  have gc := fun x y z L => hq_c t x y z L
  have sa := fun x y z u L => hq_sa t x y z u L
  have sb := fun x y z u L => hq_sb t x y z u L
  have sc := fun x y z u L => hq_sc t x y z u L
  have hlk := fun (H : Hp) h => lk_eq (H := H) (mi := mi) (k := key) mty44 ok h
  cases hg : mget key M.m with
  | some v =>
    obtain ⟨i, hi', hk, rfl⟩ := ix_some hx hg
    subst hk
    obtain ⟨r, l1, M1, l', M', e1, e2, p1, v1⟩ := settle t (room := room) (L := L) (l := l.set i (l[i].1, count)) (M := M) (i := i) (by rw [List.length_set]; exact hi') (ix_count hx hi' count) ok (almost_set ordI_le_trans hh) (by rw [List.length_set]; omega)
    simp only [hH, hP, List.length_set] at e1 e2
    have hi0 : 0 ≤ (i : Int) := by omega
    simp -implicitDefEqProofs [-List.map_set, Try.f11, hP, hH, vnil, isPtr, fresh, cellsAt, ga, gb, gc, sa, hlk, hg, hi', hi0, bin_pne up23, vstore, cellsOf?, wr_count hi', e1, e2]
    exact ⟨rfl, Nat.le_refl _, l', M', ⟨[], by rw [List.append_nil]⟩, v1, .inl ⟨i, hi', rfl, rfl, p1⟩⟩
  | none =>
    have hno : ∀ i, ∀ h : i < l.length, l[i].1 ≠ key := fun i h e => by have := hx.at_ i h; rw [e, hg] at this; cases this
    by_cases hr : (l.length : Int) < room
    · have hl2 : (l ++ [(key, count)]).length = l.length + 1 := by simp
      obtain ⟨r, l1, M1, l', M', e1, e2, p1, v1⟩ := settle t (room := room) (L := L ++ [.clo [cItm (key, count)] false]) (l := l ++ [(key, count)]) (M := M.put key l.length) (i := l.length) (by rw [hl2]; omega) (by rw [MS.put_m]; exact ix_push hx hg) (MS.put_ok ok _ _) (almost_push hh) (by rw [hl2]; omega)
      simp only [hH, hP, hl2, cItm, List.map_append, List.map_cons, List.map_nil] at e1 e2
      have hmu := fun (H : Hp) h => mu_eq (H := H) (mi := mi) (k := key) (v := (l.length : Int)) mty44 ok h
      have w1 : IntKind.i64.wrap ((l.length : Int) + 1) = ((l.length + 1 : Nat) : Int) := by rw [w64_id (by omega) (by omega)]; omega
      have b1 : 24 * (l.length + 1) ≤ 70368744177664 := by omega
      have b2 : l.length + 1 ≤ 4611686018427387904 := by omega
      have hal : AllLen (l.map cItm) 2 := by intro x hx; obtain ⟨y, _, rfl⟩ := List.mem_map.1 hx; rfl
      simp -implicitDefEqProofs [Try.f11, hP, hH, vnil, isPtr, fresh, cellsAt, ga, gb, gc, sa, sb, sc, hlk, hg, hr, bin_pne up23, wr, vstore, Ent.wrO, cellsOf?, hmu, vappend_sp es22 es22 el28, vbuildSlice_eq es22 el28, fzParts, setAll, rchParts, elemsOf, b1, b2, hal, hq_app, hq_len, hq_gete, e1, e2]
      exact ⟨l', M', ⟨_, rfl⟩, v1, .inr ⟨hno, .inl ⟨hr, rfl, p1⟩⟩⟩
    · have hne : 0 < l.length := by omega
      by_cases hc : l[0].2 < count
      · obtain ⟨r, l1, M1, l', M', e1, e2, p1, v1⟩ := settle t (room := room) (L := L) (l := l.set 0 (key, count)) (M := (M.del l[0].1).put key 0) (i := 0) (by rw [List.length_set]; exact hne) (by rw [MS.put_m, MS.del_m]; exact ix_top hx hne hg) (MS.put_ok (MS.del_ok ok _) _ _) (almost_set ordI_le_trans hh) (by rw [List.length_set]; omega)
        simp only [hH, hP, List.length_set, Int.natCast_zero] at e1 e2
        have hmd := fun (H : Hp) (k : ByteArray) h => md_eq (H := H) (mi := mi) (k := k) mty44 ok h
        have okd := MS.del_ok ok l[0].1
        have hmu := fun (H : Hp) (h : H[mi]? = some (M.del l[0].1).ent) => mu_eq (k := key) (v := 0) mty44 okd h
        simp -implicitDefEqProofs [-List.map_set, Try.f11, hP, hH, vnil, isPtr, fresh, cellsAt, ga, gb, gc, sa, sb, hlk, hg, hr, hc, hne, bin_pne up23, wr, vstore, wr_item, cItm, cellsOf?, mapO, fzc, rch, frzAll, hmd, hmu, e1, e2]
        exact ⟨l', M', ⟨[], by rw [List.append_nil]⟩, v1, .inr ⟨hno, .inr ⟨hr, hne, .inl ⟨hc, rfl, p1⟩⟩⟩⟩
      · simp -implicitDefEqProofs [Try.f11, hP, hH, vnil, isPtr, fresh, cellsAt, ga, gb, gc, hlk, hg, hr, hc, hne, cItm, bin_pne up23]
        exact ⟨l, M, ⟨[], by rw [List.append_nil]⟩, ⟨hx, ok, hh⟩, .inr ⟨hno, .inr ⟨hr, hne, .inr ⟨hc, rfl, rfl⟩⟩⟩⟩
end

theorem ix_nil : Ix [] [] := ⟨List.nodup_nil, rfl, fun i h => absurd h (Nat.not_lt_zero _), fun k v h => by cases h⟩
theorem heap_nil : HeapOk Ah [] := fun j _ h => absurd h (Nat.not_lt_zero _)

end Go.Proofs.YtapkbkbjfekldaaF
end

section
/- A heap made, and read. -/
namespace Go.Proofs.YtapkbkbjfekldaaF
open Go Go.Proofs.Vm

def hN : AV := .one (.c (.v (.pointer none)))

theorem new_no {room : Int} {H : Hp} (h : room < 1 ∨ 64 < room) : TV.S 8 [vI .i64 room] H = some (hN, H) := by
  refine run8 (by simp) (Nat.le_refl _) ?_
  by_cases h1 : room < 1
  · simp -implicitDefEqProofs [Try.f8, h1, hN]
  · have h2 : 64 < room := by omega
    simp -implicitDefEqProofs [Try.f8, h1, h2, hN]
theorem new_yes {room : Int} {H : Hp} (h1 : 1 ≤ room) (h2 : room ≤ 64) : TV.S 8 [vI .i64 room] H = some (hP (H.length + 2), H ++ [MS.empty.ent, .clo [] false, .opn [[.c (.v (.int .i64 room)), .sl (H.length + 1) 0 0 0, .mp H.length]] false]) := by
  refine run8 (by simp) (by simp) ?_
  have c1 : ¬ room < 1 := by omega
  have c2 : ¬ 64 < room := by omega
  simp -implicitDefEqProofs [Try.f8, c1, c2, hP, MS.empty_ent, wr, vmakeMap, cellsOf?, ownz]

theorem take_itm (l : List Itm) : (l.map cItm).take l.length = l.map cItm := List.take_of_length_le (by simp)
theorem bin_pce {P : Program} {H : Hp} {t e : TypeId} (hu : pv P (underlying t) = some (.pointer e)) {x y : Operand} {cs : List CV} : vbin P H .eql t x y (.one (.c (.cptr cs))) (.one (.c (.v (.pointer none)))) = qa (vB false) := by
  simp [vbin, vbin0, neSl, isNils, isPtr, isNilp, fresh, hu, one?, Value.oneCell']
theorem len_ (room : Int) (l : List Itm) : TV.pu 12 [.one (.cptr [.v (.int .i64 room), .arr (l.map cItm), .top])] = some (cI .i64 l.length) := by
  refine run12 (by simp) ?_
  simp -implicitDefEqProofs [Try.f12, vnil, isPtr, fresh, cellsAt, bin_pce up23]
section
variable {K : Hp} {hi si mi : Nat} (t : Three K si mi hi) {room : Int} {l : List Itm} {M : MS} {L : Hp}
include t

theorem get_ (hx : Ix l M.m) (ok : M.Ok) (key : ByteArray) : ∃ n b, TV.S 13 [hP hi, vS key] (hH K hi si mi room l M L) = some (.tup [(false, [.c (.v (.int .i64 n))]), (false, [.c (.v (.bool b))])], hH K hi si mi room l M L) ∧
    ((∃ i, ∃ h : i < l.length, l[i].1 = key ∧ l[i].2 = n ∧ b = true) ∨ (∀ i, ∀ h : i < l.length, l[i].1 ≠ key) ∧ n = 0 ∧ b = false) := by
  have ga := fun x y z L => hq_a t x y z L
  have gb := fun x y z L => hq_b t x y z L
  have gc := fun x y z L => hq_c t x y z L
  have hlk := fun (H : Hp) h => lk_eq (H := H) (mi := mi) (k := key) mty44 ok h
  cases hg : mget key M.m with
  | some v =>
    obtain ⟨i, hi', hk, rfl⟩ := ix_some hx hg
    subst hk
    refine ⟨l[i].2, true, run13 (by simp) (Nat.le_refl _) ?_, .inl ⟨i, hi', rfl, rfl, rfl⟩⟩
    simp -implicitDefEqProofs [Try.f13, hP, hH, vnil, isPtr, fresh, cellsAt, ga, gb, gc, hlk, hg, hi', cItm, bin_pne up23]
  | none =>
    have hno : ∀ i, ∀ h : i < l.length, l[i].1 ≠ key := fun i h e => by have := hx.at_ i h; rw [e, hg] at this; cases this
    refine ⟨0, false, run13 (by simp) (Nat.le_refl _) ?_, .inr ⟨hno, rfl, rfl⟩⟩
    simp -implicitDefEqProofs [Try.f13, hP, hH, vnil, isPtr, fresh, cellsAt, gb, gc, hlk, hg, bin_pne up23]

theorem last_ (hne : 0 < l.length) : ∃ G, TV.S 16 [hP hi] (hH K hi si mi room l M L) = some (.tup [(true, [.c (.v (.string l[0].1)), .c (.v (.int .i64 l[0].2))]), (false, [.c (.v (.bool true))])], hH K hi si mi room l M (L ++ G)) := by
  have ga := fun x y z L => hq_a t x y z L
  have gb := fun x y z L => hq_b t x y z L
  have gc := fun x y z L => hq_c t x y z L
  have hln := len_ room l
  have htk := take_itm l
  refine ⟨[.opn [[.c (.v (.string l[0].1)), .c (.v (.int .i64 l[0].2))]] false], run16 (by simp) (by simp [hH, hq_len]) ?_⟩
  have hne' : ¬ (l.length : Int) = 0 := by omega
  have hne2 : l ≠ [] := by intro e; rw [e] at hne; exact Nat.lt_irrefl _ hne
  simp -implicitDefEqProofs [Try.f16, hP, hH, vnil, isPtr, fresh, cellsAt, ga, gc, hln, htk, hne, hne2, hq_app, hq_len, hq_gete, hq_set, cItm, vstore, cellsOf?, Ent.wrO, wr]
  exact ⟨_, rfl, rfl⟩

set_option maxRecDepth 20000 in
theorem check_ (hv : Inv l M) (hr : (l.length : Int) ≤ room) (hl : l.length < 1000) : ∃ a K', TV.S 17 [hP hi] (hH K hi si mi room l M L) = some (a, K') ∧ ∃ G, a = vB true ∧ K' = hH K hi si mi room l M (L ++ G) := by
  obtain ⟨hx, ok, hh⟩ := hv
  have ga := fun x y z L => hq_a t x y z L
  have gb := fun x y z L => hq_b t x y z L
  have gc := fun x y z L => hq_c t x y z L
  have hml := fun (H : Hp) (ty : TypeId) h => ml_eq (H := H) (mi := mi) (ty := ty) mt44 ok h
  have hlm : M.m.length = l.length := hx.len
  have c1 : ¬ room < (l.length : Int) := by omega
  refine runX17 (by simp) (by rintro a K' ⟨G, -, rfl⟩; simp [hH, hq_len]) ?_
  simp -implicitDefEqProofs [Try.f17, hP, hH, vnil, isPtr, fresh, cellsAt, ga, gb, gc, hml, hlm, c1, bin_pne up23]
  obtain ⟨I, hI⟩ : ∃ I : Nat → St → Prop, ∀ k s', I k s' ↔ (∃ e i G, s' = ⟨e, hH K hi si mi room l M (L ++ G)⟩ ∧ e 0 = hP hi ∧ e 37 = .one (.sl si 0 l.length l.length) ∧ e 38 = vI .i64 l.length ∧ e 39 = vI .i64 (i : Nat) ∧ i + k = l.length) := ⟨_, fun _ _ => Iff.rfl⟩
  refine wpL_ind I ?_ l.length _ ((hI _ _).2 ⟨_, 0, [], by rw [List.append_nil]; rfl, by simp [hP], by simp, by simp, by simp, by omega⟩)
  intro k st hst
  obtain ⟨e, i, G, rfl, e0, e37, e38, e39, hk⟩ := (hI _ _).1 hst
  by_cases c : i < l.length
  · have w1 : IntKind.i64.wrap ((i : Int) + 1) = ((i + 1 : Nat) : Int) := by rw [w64_id (by omega) (by omega)]; omega
    have w2 : IntKind.i64.wrap ((i : Int) - 1) = ((i : Int) - 1) := by rw [w64_id (by omega) (by omega)]
    have hg := hx.at_ i c
    have hlk := fun (H : Hp) h => lk_eq (H := H) (mi := mi) (k := l[i].1) mty44 ok h
    generalize hL : L ++ G = L'
    by_cases c0 : 0 < i
    · obtain ⟨p, hpd⟩ : ∃ p, p = (i - 1) / 2 := ⟨_, rfl⟩
      have hpar : p < l.length := by omega
      have hedge : Ah l[i] l[p] := by
        have := hh i c0 c
        simp only [← hpd] at this
        exact this
      have w3 : IntKind.i64.wrap ((i : Int) - 1) = ((i - 1 : Nat) : Int) := by rw [w64_id (by omega) (by omega)]; omega
      have hq2 : ∀ (H : Hp) (t : TypeId) (x y : Operand), vbin Try.prog H .quo t x y (vI .i64 ((i - 1 : Nat) : Int)) (vI .i64 2) = qa (vI .i64 ((p : Nat) : Int)) := fun H t x y => by rw [hpd]; exact bin_half (by omega)
      have hab := fun L => above t (room := room) (M := M) (L := L) c hpar
      simp only [hH, hP] at hab
      have hd : ¬ 0 < ordI l[i] l[p] := by have : Ah l[i] l[p] := hedge; unfold Ah at this; omega
      simp -implicitDefEqProofs [e0, e37, e38, e39, c, c0, hP, hH, vnil, isPtr, fresh, cellsAt, ga, gb, gc, cItm, hlk, hg, w1, w3, hq2, hab, hd, hq_app, hq_len, hq_gete, hq_set, vstore, cellsOf?, Ent.wrO, wr]
      exact ⟨k - 1, by omega, (hI _ _).2 ⟨_, i + 1, G ++ [_], by rw [← List.append_assoc, hL]; rfl, by simp [e0, hP], by simp [e37], by simp [e38], by simp, by omega⟩⟩
    · have hi0 : i = 0 := by omega
      subst hi0
      have w1' : IntKind.i64.wrap 1 = ((0 + 1 : Nat) : Int) := by decide
      simp -implicitDefEqProofs [e0, e37, e38, e39, c, hP, hH, vnil, isPtr, fresh, cellsAt, ga, gb, gc, cItm, hlk, hg, w1', hq_app, hq_len, hq_gete, hq_set, vstore, cellsOf?, Ent.wrO, wr]
      exact ⟨k - 1, by omega, (hI _ _).2 ⟨_, 1, G ++ [_], by rw [← List.append_assoc, hL]; rfl, by simp [e0, hP], by simp [e37], by simp [e38], by simp, by omega⟩⟩
  · simp -implicitDefEqProofs [e38, e39, c]
    exact ⟨G, rfl⟩
end
end Go.Proofs.YtapkbkbjfekldaaF
end

section
/- A heap's list. -/
namespace Go.Proofs.YtapkbkbjfekldaaF
open Go Go.Proofs.Vm

theorem sort_ {H : Hp} {id : Nat} {xs : List Itm} (h : H[id]? = some (.clo (xs.map cItm) false)) (hl : xs.length < 1000) :
    TV.S 24 [.one (.sl id 0 xs.length xs.length), .one (.fn 25 [])] H = some (und, H.set id (.clo ((isort ordI xs).map cItm) false)) := by
  refine TT_baseS ?_
  have h2 : xs.length < 4611686018427387904 := by omega
  simp [cfg, itmTab, sortFRun, h, mapO_itm, h2]

theorem clone00 {H : Hp} {id : Nat} (h : H[id]? = some (.clo [] false)) : TV.S 23 [.one (.sl id 0 0 0)] H = some (.one (.sl (H.length + 1) 0 0 0), H ++ [.clo [] false, .clo [] false]) := by
  refine TT_baseS ?_
  simp [cfg, itmTab, clone0Run, h]

section
variable {K : Hp} {hi si mi : Nat} (t : Three K si mi hi) {room : Int} {l : List Itm} {M : MS} {L : Hp}
include t

theorem clone_ (hl : l.length < 1000) :
    TV.S 23 [.one (.sl si 0 l.length l.length)] (hH K hi si mi room l M L) = some (.one (.sl (K.length + (L.length + 1)) 0 l.length l.length), hH K hi si mi room l M (L ++ [.clo [] false, .clo (l.map cItm) false])) := by
  have ga := fun x y z L => hq_a t x y z L
  cases hl0 : l with
  | nil =>
    have := clone00 (H := hH K hi si mi room [] M L) (id := si) (by unfold hH; rw [ga]; rfl)
    simp only [List.length_nil]
    rw [this]
    simp [hH, hq_app, hq_len, Nat.add_assoc]
  | cons x r =>
    rw [← hl0]
    have hne : l.length ≠ 0 := by rw [hl0]; simp
    have hb : cfg.base.S 23 [.one (.sl si 0 l.length l.length)] (hH K hi si mi room l M L) = none := by
      show clone0Run _ _ = none
      unfold clone0Run
      split
      · rename_i heq
        have : l.length = 0 := by injection heq with h1; injection h1 with h1; injection h1
        exact absurd this hne
      · rfl
    refine run23 hb (by simp) (by simp [hH, hq_len]) ?_
    have hll : lenIs (hq K si mi hi (.clo (l.map cItm) false) M.ent (.opn [[.c (.v (.int .i64 room)), .sl si 0 l.length l.length, .mp mi]] false) (L ++ [.clo [] false])) si l.length = true := by simp [ga]
    have hsl := fun (t : TypeId) (e : TypeId) (he : elemOfSlice Try.prog t = some e) (x y : Operand) => bin_slo he (x := x) (y := y) (o := 0) hne hll
    have b1 : 24 * l.length ≤ 70368744177664 := by omega
    have b2 : l.length ≤ 4611686018427387904 := by omega
    have hal : AllLen (l.map cItm) 2 := by intro x hx; obtain ⟨y, _, rfl⟩ := List.mem_map.1 hx; rfl
    have htk : (l.map cItm).take l.length = l.map cItm := List.take_of_length_le (by simp)
    simp -implicitDefEqProofs [Try.f23, hH, ga, vmove, isNil, hsl 22 28 es22, bs_zero es22 el28, vappend_sp es22 es22 el28, elemsOf, hq_app, hq_len, hq_gete, hq_set, b1, b2, hal, htk]

theorem list_ (hl : l.length < 1000) :
    TV.S 15 [hP hi] (hH K hi si mi room l M L) = some (.one (.sl (K.length + (L.length + 2)) 0 l.length l.length), hH K hi si mi room l M (L ++ [.clo [] false, .clo [] false, .clo ((isort ordI l).map cItm) false])) := by
  refine run15 (by simp) (by simp [hH, hq_len]) ?_
  have ga := fun x y z L => hq_a t x y z L
  have gc := fun x y z L => hq_c t x y z L
  have hcl := clone_ t (room := room) (M := M) (L := L ++ [.clo [] false]) hl
  have hso := sort_ (H := hH K hi si mi room l M (L ++ [.clo [] false, .clo [] false, .clo (l.map cItm) false])) (id := K.length + (L.length + 2)) (xs := l) (by unfold hH; rw [hq_get]; simp) hl
  simp only [hH, List.append_assoc, List.length_append, List.length_cons, List.length_nil, List.cons_append, List.nil_append, hq_set, Nat.add_assoc, Nat.zero_add, Nat.reduceAdd] at hcl hso
  simp -implicitDefEqProofs [Try.f15, hH, hP, vnil, isPtr, fresh, cellsAt, gc, vmove, isNil, bin_pne up23, hq_app, hq_len, hcl, hso]
end
end Go.Proofs.YtapkbkbjfekldaaF
end

section
/- The document's answer for heaps, and the statements' small helpers. -/
namespace Go.Proofs.YtapkbkbjfekldaaF
open Go Go.Proofs.Vm

def cItms (l : List Itm) : CV := .arr (l.map cItm)
def fewB (l : List Itm) : Bool := l.all (fun x => decide (x.1.size ≤ 100)) && decide (l.length ≤ 150)

theorem few (l : List Itm) (hl : l.length < 4611686018427387904) : TV.pu 9 [.one (cItms l)] = some (cB (fewB l)) := by
  refine run9 (by simp) ?_
  simp -implicitDefEqProofs [Try.f9, cItms]
  obtain ⟨I, hI⟩ : ∃ I : Nat → St → Prop, ∀ k s', I k s' ↔ (∃ e i, s' = ⟨e, []⟩ ∧ e 0 = .one (.c (.arr (l.map cItm))) ∧ e 5 = vI .i64 l.length ∧ e 6 = vI .i64 (i : Nat) ∧ i + k = l.length ∧ ∀ q, ∀ h : q < l.length, q < i → l[q].1.size ≤ 100) := ⟨_, fun _ _ => Iff.rfl⟩
  refine wpL_ind I ?_ l.length _ ((hI _ _).2 ⟨_, 0, rfl, by simp, by simp, by simp, by omega, fun q _ h => absurd h (Nat.not_lt_zero _)⟩)
  intro k st hst
  obtain ⟨e, i, rfl, e0, e5, e6, hk, hq⟩ := (hI _ _).1 hst
  by_cases c : i < l.length
  · have w1 : IntKind.i64.wrap ((i : Int) + 1) = ((i + 1 : Nat) : Int) := by rw [w64_id (by omega) (by omega)]; omega
    by_cases d : 100 < l[i].1.size
    · have d' : 100 < (l[i].1.size : Int) := by omega
      have hf : fewB l = false := by
        unfold fewB
        rw [Bool.and_eq_false_iff]
        left
        rw [List.all_eq_false]
        exact ⟨l[i], List.getElem_mem c, by simp; omega⟩
      simp -implicitDefEqProofs [e0, e5, e6, c, cItm, d', hf]
    · have d' : ¬ 100 < (l[i].1.size : Int) := by omega
      simp -implicitDefEqProofs [e0, e5, e6, c, cItm, d', w1]
      exact ⟨k - 1, by omega, (hI _ _).2 ⟨_, i + 1, rfl, by simp [e0], by simp [e5], by simp, by omega, fun q h1 h2 => by
        by_cases e : q = i
        · subst e; omega
        · exact hq q h1 (by omega)⟩⟩
  · have hf : fewB l = decide ((l.length : Int) ≤ 150) := by
      unfold fewB
      have : l.all (fun x => decide (x.1.size ≤ 100)) = true := by
        rw [List.all_eq_true]
        intro x hx
        obtain ⟨q, h, rfl⟩ := List.getElem_of_mem hx
        simpa using hq q h (by omega)
      rw [this, Bool.true_and]
      congr 1
      exact propext (by omega)
    simp -implicitDefEqProofs [e0, e5, e6, c, hf]

def sameB (a b : List Itm) : Bool := decide (a = b)
theorem same (a b : List Itm) (ha : a.length < 4611686018427387904) : TV.pu 19 [.one (cItms a), .one (cItms b)] = some (cB (sameB a b)) := by
  refine run19 (by simp) ?_
  by_cases hl : a.length = b.length
  · have hl' : (a.length : Int) = (b.length : Int) := by omega
    simp -implicitDefEqProofs [Try.f19, cItms, hl']
    obtain ⟨I, hI⟩ : ∃ I : Nat → St → Prop, ∀ k s', I k s' ↔ (∃ e i, s' = ⟨e, []⟩ ∧ e 0 = .one (.c (.arr (a.map cItm))) ∧ e 1 = .one (.c (.arr (b.map cItm))) ∧ e 12 = vI .i64 b.length ∧ e 13 = vI .i64 (i : Nat) ∧ i + k = b.length ∧ ∀ q, ∀ h : q < a.length, ∀ h2 : q < b.length, q < i → a[q] = b[q]) := ⟨_, fun _ _ => Iff.rfl⟩
    refine wpL_ind I ?_ b.length _ ((hI _ _).2 ⟨_, 0, rfl, by simp, by simp, by simp, by simp, by omega, fun q _ _ h => absurd h (Nat.not_lt_zero _)⟩)
    intro k st hst
    obtain ⟨e, i, rfl, e0, e1, e12, e13, hk, hq⟩ := (hI _ _).1 hst
    by_cases c : i < b.length
    · have ca : i < a.length := by omega
      have w1 : IntKind.i64.wrap ((i : Int) + 1) = ((i + 1 : Nat) : Int) := by rw [w64_id (by omega) (by omega)]; omega
      by_cases d1 : a[i].1 = b[i].1
      · by_cases d2 : a[i].2 = b[i].2
        · simp -implicitDefEqProofs [e0, e1, e12, e13, c, ca, cItm, sbin_neq, d1, d2, w1]
          exact ⟨k - 1, by omega, (hI _ _).2 ⟨_, i + 1, rfl, by simp [e0], by simp [e1], by simp [e12], by simp, by omega, fun q h1 h2 h3 => by
            by_cases e : q = i
            · subst e; exact Prod.ext d1 d2
            · exact hq q h1 h2 (by omega)⟩⟩
        · have hf : sameB a b = false := by
            unfold sameB
            simp only [decide_eq_false_iff_not]
            rintro rfl; exact d2 rfl
          simp -implicitDefEqProofs [e0, e1, e12, e13, c, ca, cItm, sbin_neq, d1, d2, hf]
      · have hf : sameB a b = false := by
          unfold sameB
          simp only [decide_eq_false_iff_not]
          rintro rfl; exact d1 rfl
        simp -implicitDefEqProofs [e0, e1, e12, e13, c, ca, cItm, sbin_neq, toList_inj, d1, hf]
    · have hf : sameB a b = true := by
        unfold sameB
        simp only [decide_eq_true_eq]
        exact List.ext_getElem hl fun q h1 h2 => hq q h1 h2 (by omega)
      simp -implicitDefEqProofs [e12, e13, c, hf]
  · have hl' : ¬ (a.length : Int) = (b.length : Int) := by omega
    have hf : sameB a b = false := by
      unfold sameB
      simp only [decide_eq_false_iff_not]
      rintro rfl; exact hl rfl
    simp -implicitDefEqProofs [Try.f19, cItms, hl', hf]

def aheadB (a b : Itm) : Bool := decide (ordI a b < 0)
theorem Ahead (a b : Itm) : TV.pu 35 [.agg (cItm a), .agg (cItm b)] = some (cB (aheadB a b)) := by
  refine run35 (by simp) ?_
  have hb := bl_cmpB a.1 b.1
  have ho := ordI_lt (a := a) (b := b)
  by_cases c1 : b.2 < a.2
  · have hf : aheadB a b = true := decide_eq_true (ho.2 (.inl c1))
    simp -implicitDefEqProofs [Try.f35, cItm, c1, hf]
  · have c1' : a.2 ≤ b.2 := by omega
    by_cases c2 : a.2 = b.2
    · have hf : aheadB a b = decide (cmpB a.1 b.1 < 0) := by
        unfold aheadB
        congr 1
        refine propext (ho.trans ⟨fun h => ?_, fun h => .inr ⟨c2.symm, h⟩⟩)
        rcases h with h | h
        · exact absurd h c1
        · exact h.2
      simp -implicitDefEqProofs [Try.f35, cItm, c2, hf, sbin_lss, hb]
    · have hf : aheadB a b = false := decide_eq_false (fun h => by rcases ho.1 h with h | h; · exact c1 h
                                                                   exact c2 h.1.symm)
      simp -implicitDefEqProofs [Try.f35, cItm, c1, c2, hf]

/-- The document's list with one more. -/
def insL (x : Itm) : List Itm → List Itm
  | [] => [x]
  | y :: r => if aheadB x y = true then x :: y :: r else y :: insL x r
theorem insL_len (x : Itm) : ∀ l, (insL x l).length = l.length + 1
  | [] => rfl
  | y :: r => by
    unfold insL
    split
    · rfl
    · simp [insL_len x r]
def notK (k : ByteArray) (l : List Itm) : List Itm := l.filter fun x => decide (x.1 ≠ k)
theorem notK_step {k : ByteArray} {l : List Itm} {i : Nat} (c : i < l.length) : notK k (l.take (i + 1)) = if l[i].1 = k then notK k (l.take i) else notK k (l.take i) ++ [l[i]] := by
  rw [List.take_add_one, List.getElem?_eq_getElem c]
  show (l.take i ++ [l[i]]).filter _ = _
  rw [List.filter_append]
  unfold notK
  by_cases d : l[i].1 = k <;> simp [d]
theorem cItm_all (l : List Itm) : AllLen (l.map cItm) 2 := by intro x hx; obtain ⟨y, _, rfl⟩ := List.mem_map.1 hx; rfl

theorem Without (l : List Itm) (k : ByteArray) (hl : l.length < 1000) : TV.pu 27 [.one (cItms l), .one (.v (.string k))] = some (.one (cItms (notK k l))) := by
  refine run27 (by simp) ?_
  simp -implicitDefEqProofs [Try.f27, cItms, vmove, isNil]
  obtain ⟨I, hI⟩ : ∃ I : Nat → St → Prop, ∀ n s', I n s' ↔ (∃ e i out E L, s' = ⟨e, E :: .clo (out.map cItm) false :: L⟩ ∧ e 0 = .one (.c (.arr (l.map cItm))) ∧ e 1 = vS k ∧ e 5 = .one (.sl 1 0 out.length out.length) ∧ e 6 = vI .i64 (i : Nat) ∧ i + n = l.length ∧ out = notK k (l.take i)) := ⟨_, fun _ _ => Iff.rfl⟩
  refine wpL_ind I ?_ l.length _ ((hI _ _).2 ⟨_, 0, [], _, _, rfl, by simp, by simp, by simp, by simp, by omega, by simp [notK]⟩)
  intro n st hst
  obtain ⟨e, i, out, E, L, rfl, e0, e1, e5, e6, hn, ho⟩ := (hI _ _).1 hst
  by_cases c : i < l.length
  · have w1 : IntKind.i64.wrap ((i : Int) + 1) = ((i + 1 : Nat) : Int) := by rw [w64_id (by omega) (by omega)]; omega
    have htk := notK_step (k := k) c
    have hol : out.length ≤ i := by rw [ho]; exact Nat.le_trans (List.length_filter_le _ _) (by simp; omega)
    by_cases d : l[i].1 = k
    · simp -implicitDefEqProofs [e0, e1, e6, c, cItm, sbin_neq, d, w1]
      exact ⟨n - 1, by omega, (hI _ _).2 ⟨_, i + 1, out, _, _, rfl, by simp [e0], by simp [e1], by simp [e5], by simp, by omega, by rw [htk, ho]; simp only [d, if_true]⟩⟩
    · have b1 : 24 * (out.length + 1) ≤ 70368744177664 := by omega
      have b2 : out.length + 1 ≤ 4611686018427387904 := by omega
      have hal := cItm_all out
      simp -implicitDefEqProofs [e0, e1, e5, e6, c, cItm, sbin_neq, toList_inj, d, w1, vmove, isNil, vappend_sp es38 es38 el42, vbuildSlice_eq es38 el42, cellsOf?, fzParts, setAll, rchParts, rch, elemsOf, b1, b2, hal]
      exact ⟨n - 1, by omega, (hI _ _).2 ⟨_, i + 1, out ++ [l[i]], _, _, by simp only [List.map_append, List.map_cons, List.map_nil, cItm]; rfl, by simp [e0], by simp [e1], by simp, by simp, by omega, by rw [htk, ho]; simp only [d, if_false]⟩⟩
  · have hi : l.take i = l := List.take_of_length_le (by omega)
    rw [hi] at ho
    subst ho
    simp -implicitDefEqProofs [e0, e5, e6, c, vmove, isNil, take_itm]
theorem Put (l : List Itm) (x : Itm) (hl : l.length < 1000) : TV.pu 28 [.one (cItms l), .agg (cItm x)] = some (.one (cItms (insL x l))) := by
  refine run28 (by simp) ?_
  simp -implicitDefEqProofs [Try.f28, cItms, cItm, vmove, isNil]
  obtain ⟨I, hI⟩ : ∃ I : Nat → St → Prop, ∀ n s', I n s' ↔ (∃ e i out put E L, s' = ⟨e, .opn [[.c (.v (.string x.1)), .c (.v (.int .i64 x.2))]] false :: E :: .clo (out.map cItm) false :: L⟩ ∧ e 0 = .one (.c (.arr (l.map cItm))) ∧ e 3 = .one (.ptr ⟨0, 0, 0, 1⟩) ∧ e 5 = .one (.sl 2 0 out.length out.length) ∧ e 6 = vB put ∧ e 7 = vI .i64 (i : Nat) ∧ i + n = l.length ∧ (put = true → out.length = i + 1 ∧ out ++ l.drop i = insL x l) ∧ (put = false → out.length = i ∧ out ++ insL x (l.drop i) = insL x l)) := ⟨_, fun _ _ => Iff.rfl⟩
  refine wpL_ind I ?_ l.length _ ((hI _ _).2 ⟨_, 0, [], false, _, _, rfl, by simp, by simp, by simp, by simp, by simp, by omega, by simp, by simp⟩)
  intro n st hst
  obtain ⟨e, i, out, put, E, L, rfl, e0, e3, e5, e6, e7, hn, hp1, hp2⟩ := (hI _ _).1 hst
  by_cases c : i < l.length
  · have w1 : IntKind.i64.wrap ((i : Int) + 1) = ((i + 1 : Nat) : Int) := by rw [w64_id (by omega) (by omega)]; omega
    have hd : l.drop i = l[i] :: l.drop (i + 1) := List.drop_eq_getElem_cons c
    have hal := cItm_all out
    have hA := Ahead x l[i]
    simp only [cItm] at hA
    cases put with
    | true =>
      obtain ⟨g1, g2⟩ := hp1 rfl
      have b1 : 24 * (out.length + 1) ≤ 70368744177664 := by omega
      have b2 : out.length + 1 ≤ 4611686018427387904 := by omega
      simp -implicitDefEqProofs [e0, e5, e6, e7, c, cItm, w1, vmove, isNil, vappend_sp es38 es38 el42, vbuildSlice_eq es38 el42, cellsOf?, fzParts, setAll, rchParts, rch, elemsOf, b1, b2, hal]
      exact ⟨n - 1, by omega, (hI _ _).2 ⟨_, i + 1, out ++ [l[i]], true, _, _, by simp only [List.map_append, List.map_cons, List.map_nil, cItm]; rfl, by simp [e0], by simp [e3], by simp, by simp [e6], by simp, by omega, fun _ => ⟨by simp [g1], by rw [← g2, hd]; simp⟩, by simp⟩⟩
    | false =>
      obtain ⟨g1, g2⟩ := hp2 rfl
      have b1 : 24 * (out.length + 1) ≤ 70368744177664 := by omega
      have b2 : out.length + 1 ≤ 4611686018427387904 := by omega
      have b3 : 24 * (out.length + 1 + 1) ≤ 70368744177664 := by omega
      have b4 : out.length + 1 + 1 ≤ 4611686018427387904 := by omega
      have hal2 := cItm_all (out ++ [x])
      simp only [List.map_append, List.map_cons, List.map_nil, cItm] at hal2
      cases ha : aheadB x l[i] with
      | true =>
        rw [ha] at hA
        simp -implicitDefEqProofs [e0, e3, e5, e6, e7, c, cItm, w1, hA, vmove, isNil, cellsAt, vappend_sp es38 es38 el42, vbuildSlice_eq es38 el42, cellsOf?, fzParts, setAll, rchParts, rch, elemsOf, b1, b2, b3, b4, hal, hal2, mapO, fzc, frzAll]
        exact ⟨n - 1, by omega, (hI _ _).2 ⟨_, i + 1, out ++ [x, l[i]], true, _, _, by simp only [List.map_append, List.map_cons, List.map_nil, cItm]; rfl, by simp [e0], by simp [e3], by simp, by simp, by simp, by omega, fun _ => ⟨by simp [g1], by rw [← g2, hd]; simp [insL, ha]⟩, by simp⟩⟩
      | false =>
        rw [ha] at hA
        simp -implicitDefEqProofs [e0, e3, e5, e6, e7, c, cItm, w1, hA, vmove, isNil, cellsAt, vappend_sp es38 es38 el42, vbuildSlice_eq es38 el42, cellsOf?, fzParts, setAll, rchParts, rch, elemsOf, b1, b2, hal, mapO, fzc, frzAll]
        exact ⟨n - 1, by omega, (hI _ _).2 ⟨_, i + 1, out ++ [l[i]], false, _, _, by simp only [List.map_append, List.map_cons, List.map_nil, cItm]; rfl, by simp [e0], by simp [e3], by simp, by simp [e6], by simp, by omega, by simp, fun _ => ⟨by simp [g1], by rw [← g2, hd]; simp [insL, ha]⟩⟩⟩
  · have hdr : l.drop i = [] := List.drop_eq_nil_iff.2 (by omega)
    have hal := cItm_all out
    rw [hdr] at hp1 hp2
    cases put with
    | true =>
      obtain ⟨g1, g2⟩ := hp1 rfl
      rw [List.append_nil] at g2
      rw [← g2]
      simp -implicitDefEqProofs [e0, e5, e6, e7, c, vmove, isNil, take_itm]
    | false =>
      obtain ⟨g1, g2⟩ := hp2 rfl
      have b1 : 24 * (out.length + 1) ≤ 70368744177664 := by omega
      have b2 : out.length + 1 ≤ 4611686018427387904 := by omega
      have htk := take_itm (out ++ [x])
      simp only [List.map_append, List.map_cons, List.map_nil, List.length_append, List.length_cons, List.length_nil, Nat.zero_add, cItm] at htk
      rw [← g2]
      simp -implicitDefEqProofs [e0, e3, e5, e6, e7, c, cItm, insL, htk, vmove, isNil, cellsAt, vappend_sp es38 es38 el42, vbuildSlice_eq es38 el42, cellsOf?, fzParts, setAll, rchParts, rch, elemsOf, b1, b2, hal]

end Go.Proofs.YtapkbkbjfekldaaF
end

section
/- Offers, of lists alone. -/
namespace Go.Proofs.YtapkbkbjfekldaaF
open Go Go.Proofs.Vm

def refOffer (room : Int) (m : List Itm) (k : ByteArray) (c : Int) : List Itm × Bool :=
  if (notK k m).length < m.length ∨ (m.length : Int) < room then (insL (k, c) (notK k m), true)
  else if ((m.getLast?.map (·.2)).getD 0) < c then (insL (k, c) m.dropLast, true) else (m, false)

def Srt (m : List Itm) : Prop := m.Pairwise fun a b => ordI a b < 0
structure Like (l m : List Itm) : Prop where
  perm : l.Perm m
  srt : Srt m
def Keys (l : List Itm) : Prop := (l.map (·.1)).Nodup

theorem insL_perm (x : Itm) : ∀ l, (insL x l).Perm (x :: l)
  | [] => .refl _
  | y :: r => by
    unfold insL
    split
    · exact .refl _
    · exact ((insL_perm x r).cons y).trans (.swap _ _ _)
theorem insL_srt (x : Itm) : ∀ l, Srt l → (∀ y ∈ l, y.1 ≠ x.1) → Srt (insL x l)
  | [], _, _ => by simp [insL, Srt]
  | y :: r, h, hk => by
    have h' := List.pairwise_cons.1 h
    unfold insL
    split
    · rename_i ha
      have ha : ordI x y < 0 := of_decide_eq_true ha
      refine List.pairwise_cons.2 ⟨fun z hz => ?_, h⟩
      rcases List.mem_cons.1 hz with rfl | hz
      · exact ha
      · exact ordI_trans ha (h'.1 z hz)
    · rename_i ha
      have ha : ¬ ordI x y < 0 := fun e => ha (decide_eq_true e)
      have hyx : ordI y x < 0 := by
        have h1 := ordI_neg x y
        have h2 : ordI x y ≠ 0 := fun e => hk y (by simp) (by rw [ordI_eq.1 e])
        omega
      refine List.pairwise_cons.2 ⟨fun z hz => ?_, insL_srt x r h'.2 fun z hz => hk z (by simp [hz])⟩
      rcases List.mem_cons.1 ((insL_perm x r).mem_iff.1 hz) with rfl | hz
      · exact hyx
      · exact h'.1 z hz

theorem eq_of_srt : ∀ {a b : List Itm}, a.Perm b → a.Pairwise (fun x y => ordI x y ≤ 0) → b.Pairwise (fun x y => ordI x y ≤ 0) → a = b
  | [], b, h, _, _ => h.nil_eq
  | x :: a, [], h, _, _ => by have := h.length_eq; simp at this
  | x :: a, y :: b, h, ha, hb => by
    have ha' := List.pairwise_cons.1 ha
    have hb' := List.pairwise_cons.1 hb
    have hxy : x = y := by
      have h1 : x ∈ y :: b := h.mem_iff.1 (by simp)
      have h2 : y ∈ x :: a := h.mem_iff.2 (by simp)
      rcases List.mem_cons.1 h1 with e | h1
      · exact e
      rcases List.mem_cons.1 h2 with e | h2
      · exact e.symm
      have k1 := hb'.1 x h1
      have k2 := ha'.1 y h2
      have k3 := ordI_neg x y
      exact ordI_eq.1 (by omega)
    subst hxy
    rw [eq_of_srt h.cons_inv ha'.2 hb'.2]
theorem isort_perm (l : List Itm) : (isort ordI l).Perm l := List.mergeSort_perm l _
theorem isort_srt (l : List Itm) : (isort ordI l).Pairwise fun x y => ordI x y ≤ 0 := by
  have h := List.pairwise_mergeSort (le := fun x y : Itm => decide (ordI x y ≤ 0)) (fun a b c h1 h2 => decide_eq_true (ordI_le_trans a b c (of_decide_eq_true h1) (of_decide_eq_true h2))) (fun a b => by
    rcases ordI_total a b with h | h
    · simp [h]
    · simp [h]) l
  exact h.imp fun h => of_decide_eq_true h
theorem Like.isort {l m : List Itm} (h : Like l m) : isort ordI l = m :=
  eq_of_srt ((isort_perm l).trans h.perm) (isort_srt l) (h.srt.imp fun h => by omega)

theorem ix_keys {l : List Itm} {m : SM} (h : Ix l m) : Keys l := by
  unfold Keys
  rw [List.nodup_iff_pairwise_ne, List.pairwise_iff_getElem]
  intro i j hi hj hij e
  simp only [List.getElem_map] at e
  have := h.inj (by simpa using hi) (by simpa using hj) e
  omega

/-- The one on top stands last. -/
theorem heap_top {l : List Itm} (h : HeapOk Ah l) (h0 : 0 < l.length) : ∀ (n j : Nat), j < n → ∀ hj : j < l.length, ordI l[j] l[0] ≤ 0 := by
  intro n
  induction n with
  | zero => intro j h; omega
  | succ n ih =>
    intro j hjn hj
    by_cases hj0 : j = 0
    · subst hj0
      rw [ordI_eq.2 rfl]; decide
    · exact ordI_le_trans _ _ _ (h j (by omega) hj) (ih _ (by omega) (by omega))

theorem set_notK {k : ByteArray} {c : Int} : ∀ {l : List Itm} {i : Nat} (h : i < l.length), l[i].1 = k → Keys l → (l.set i (k, c)).Perm ((k, c) :: notK k l)
  | x :: r, 0, _, hk, hn => by
    have hk : x.1 = k := hk
    have hn' := List.nodup_cons.1 hn
    have e : notK k (x :: r) = r := by
      unfold notK
      rw [List.filter_cons, if_neg (by simp [hk])]
      refine List.filter_eq_self.2 fun y hy => decide_eq_true fun e => hn'.1 ?_
      show x.1 ∈ r.map (·.1)
      rw [hk, ← e]
      exact List.mem_map_of_mem hy
    rw [e]
    exact .refl _
  | x :: r, i + 1, h, hk, hn => by
    have hn' := List.nodup_cons.1 hn
    have hi : i < r.length := by simpa using h
    have hk' : r[i].1 = k := hk
    have hx : ¬ x.1 = k := fun e => hn'.1 (by
      show x.1 ∈ r.map (·.1)
      rw [e, ← hk']
      exact List.mem_map_of_mem (List.getElem_mem hi))
    have e : notK k (x :: r) = x :: notK k r := by
      unfold notK
      rw [List.filter_cons, if_pos (by simp [hx])]
    rw [e]
    exact ((set_notK hi hk' hn'.2).cons x).trans (.swap _ _ _)
theorem notK_self {k : ByteArray} {m : List Itm} (h : ∀ x ∈ m, x.1 ≠ k) : notK k m = m := List.filter_eq_self.2 fun y hy => decide_eq_true (h y hy)
theorem notK_ne {k : ByteArray} {m : List Itm} : ∀ y ∈ notK k m, y.1 ≠ k := fun y hy => of_decide_eq_true (List.mem_filter.1 hy).2
theorem notK_lt {k : ByteArray} {m : List Itm} {x : Itm} (h : x ∈ m) (hk : x.1 = k) : (notK k m).length < m.length := by
  rcases Nat.lt_or_ge (notK k m).length m.length with g | g
  · exact g
  · exfalso
    have : notK k m = m := List.filter_eq_self.2 ((List.filter_sublist (l := m)).eq_of_length_le g ▸ fun a ha => (List.mem_filter.1 ha).2)
    exact notK_ne x (by rw [this]; exact h) hk

theorem Like.last {l m : List Itm} (h : Like l m) (hh : HeapOk Ah l) (h0 : 0 < l.length) : m.getLast? = some l[0] := by
  have hm : m ≠ [] := by rintro rfl; have := h.perm.length_eq; rw [List.length_nil] at this; omega
  rw [List.getLast?_eq_some_getLast hm]
  congr 1
  have h1 : m.getLast hm ∈ l := h.perm.mem_iff.2 (List.getLast_mem hm)
  obtain ⟨j, hj, e⟩ := List.getElem_of_mem h1
  have k1 := heap_top hh h0 (j + 1) j (Nat.lt_succ_self _) hj
  rw [e] at k1
  have h2 : l[0] ∈ m := h.perm.mem_iff.1 (List.getElem_mem h0)
  have h3 := h.srt
  have hsplit : m = m.dropLast ++ [m.getLast hm] := (List.dropLast_concat_getLast hm).symm
  rw [hsplit] at h2 h3
  rcases List.mem_append.1 h2 with h2 | h2
  · have k2 := (List.pairwise_append.1 h3).2.2 _ h2 (m.getLast hm) (List.mem_singleton.2 rfl)
    have k3 := ordI_neg (m.getLast hm) l[0]
    omega
  · exact (List.mem_singleton.1 h2).symm

theorem offer_like {room : Int} {l m : List Itm} {k : ByteArray} {c : Int} {b : Bool} {l' : List Itm} (hk : Keys l) (hh : HeapOk Ah l) (hL : Like l m) (ho : OfferR room l k c b l') : Like l' (refOffer room m k c).1 ∧ b = (refOffer room m k c).2 := by
  have hlen := hL.perm.length_eq
  have hsn : ∀ k, Srt (notK k m) := fun k => hL.srt.sublist List.filter_sublist
  unfold refOffer
  rcases ho with ⟨i, hi, hki, rfl, hp⟩ | ⟨hno, ho⟩
  · rw [if_pos (Or.inl (notK_lt (hL.perm.mem_iff.1 (List.getElem_mem hi)) hki))]
    exact ⟨⟨hp.trans ((set_notK hi hki hk).trans (((hL.perm.filter _).cons _).trans (insL_perm _ _).symm)), insL_srt _ _ (hsn k) fun y hy => notK_ne y hy⟩, rfl⟩
  · have hnm : ∀ x ∈ m, x.1 ≠ k := fun x hx => by
      obtain ⟨i, hi, rfl⟩ := List.getElem_of_mem (hL.perm.mem_iff.2 hx)
      exact hno i hi
    rw [notK_self hnm]
    rcases ho with ⟨hr, rfl, hp⟩ | ⟨hr, h0, ho⟩
    · rw [if_pos (Or.inr (by omega))]
      exact ⟨⟨hp.trans ((List.perm_append_comm (l₁ := l)).trans ((hL.perm.cons _).trans (insL_perm _ _).symm)), insL_srt _ _ hL.srt hnm⟩, rfl⟩
    · rw [if_neg (by omega), hL.last hh h0]
      have hm : m ≠ [] := by rintro rfl; rw [List.length_nil] at hlen; omega
      rcases ho with ⟨hc, rfl, hp⟩ | ⟨hc, rfl, rfl⟩
      · rw [if_pos (by simpa using hc)]
        refine ⟨⟨hp.trans ?_, insL_srt _ _ (hL.srt.sublist (List.dropLast_sublist m)) fun y hy => hnm y ((List.dropLast_sublist m).subset hy)⟩, rfl⟩
        refine .trans ?_ (insL_perm _ _).symm
        have hl := hL.last hh h0
        rw [List.getLast?_eq_some_getLast hm] at hl
        have e1 : m = m.dropLast ++ [l[0]] := by rw [← Option.some.inj hl]; exact (List.dropLast_concat_getLast hm).symm
        have e2 : l = l[0] :: l.tail := by cases l with | nil => simp at h0 | cons a r => rfl
        have e3 : l.set 0 (k, c) = (k, c) :: l.tail := by cases l with | nil => simp at h0 | cons a r => rfl
        rw [e3]
        refine .cons _ ?_
        have h5 : (l[0] :: l.tail).Perm (l[0] :: m.dropLast) := by
          rw [← e2]
          refine hL.perm.trans ?_
          conv => lhs; rw [e1]
          exact List.perm_append_comm
        exact h5.cons_inv
      · rw [if_neg (by simpa using hc)]
        exact ⟨hL, rfl⟩

theorem refOffer_len {room : Int} {m : List Itm} {k : ByteArray} {c : Int} : (refOffer room m k c).1.length ≤ m.length + 1 := by
  have h1 : (notK k m).length ≤ m.length := List.length_filter_le _ _
  unfold refOffer
  split
  · rw [insL_len]; omega
  · split
    · rw [insL_len, List.length_dropLast]; omega
    · exact Nat.le_succ _
theorem refOffer_pos {room : Int} {m : List Itm} {k : ByteArray} {c : Int} (hr : 1 ≤ room) : 0 < (refOffer room m k c).1.length := by
  unfold refOffer
  split
  · rw [insL_len]; omega
  · rename_i h
    split
    · rw [insL_len]; omega
    · show 0 < m.length
      omega

/-- What an offer leaves is as long as before, or by one longer, and never above room. -/
theorem offer_len {room : Int} {l : List Itm} {k : ByteArray} {c : Int} {b : Bool} {l' : List Itm} (ho : OfferR room l k c b l') : l'.length ≤ l.length + 1 ∧ 0 < l'.length ∧ ((l.length : Int) ≤ room → (l'.length : Int) ≤ room) := by
  rcases ho with ⟨i, hi, _, _, hp⟩ | ⟨_, ⟨hr, _, hp⟩ | ⟨hr, h0, ⟨_, _, hp⟩ | ⟨_, _, rfl⟩⟩⟩
  · have := hp.length_eq; simp at this; omega
  · have := hp.length_eq; simp at this; omega
  · have := hp.length_eq; simp at this; omega
  · exact ⟨Nat.le_succ _, h0, id⟩

end Go.Proofs.YtapkbkbjfekldaaF
end

section
/- The document's offers, a heap of none, a heap to which all was offered, a fixed answer. -/
namespace Go.Proofs.YtapkbkbjfekldaaF
open Go Go.Proofs.Vm

theorem refOf (room : Int) (m : List Itm) (k : ByteArray) (c : Int) (hr : 1 ≤ room) (hl : m.length < 900) :
    TV.pu 18 [cI .i64 room, .one (cItms m), .one (.v (.string k)), cI .i64 c] = some (.tup [(false, [cItms (refOffer room m k c).1]), (false, [.v (.bool (refOffer room m k c).2)])]) := by
  refine run18 (by simp) ?_
  have hW := Without m k (by omega)
  have hP1 := Put (notK k m) (k, c) (by have : (notK k m).length ≤ m.length := List.length_filter_le _ _; omega)
  have hP2 := Put m.dropLast (k, c) (by rw [List.length_dropLast]; omega)
  simp only [cItms, cItm] at hW hP1 hP2
  rw [List.map_dropLast] at hP2
  by_cases c1 : (notK k m).length < m.length
  · have e : refOffer room m k c = (insL (k, c) (notK k m), true) := if_pos (.inl c1)
    rw [e]
    simp -implicitDefEqProofs [Try.f18, cItms, hW, hP1, c1, cellsOf?, wr]
  · by_cases c2 : (m.length : Int) < room
    · have e : refOffer room m k c = (insL (k, c) (notK k m), true) := if_pos (.inr c2)
      rw [e]
      simp -implicitDefEqProofs [Try.f18, cItms, hW, hP1, c1, c2, cellsOf?, wr]
    · have hm : 0 < m.length := by omega
      have w1 : IntKind.i64.wrap ((m.length : Int) - 1) = ((m.length - 1 : Nat) : Int) := by rw [w64_id (by omega) (by omega)]; omega
      have hlt : m.length - 1 < m.length := by omega
      have hne : m ≠ [] := by rintro rfl; exact Nat.lt_irrefl _ hm
      have hla : (m.getLast?.map (·.2)).getD 0 = m[m.length - 1].2 := by rw [List.getLast?_eq_some_getLast hne, List.getLast_eq_getElem]; rfl
      have hdl : (m.map cItm).take (m.length - 1) = m.dropLast.map cItm := by rw [List.dropLast_eq_take, List.map_take]
      have hsl := fun (H : Hp) (nid : Nat) => slc_to (P := Try.prog) (H := H) (nid := nid) es38 sz42 (xs := m.map cItm) (k := m.length - 1) (by simp) (cItm_all m)
      by_cases c3 : m[m.length - 1].2 < c
      · have e : refOffer room m k c = (insL (k, c) m.dropLast, true) := by
          unfold refOffer
          rw [if_neg (by omega), hla, if_pos c3]
        rw [e]
        simp -implicitDefEqProofs [Try.f18, cItms, cItm, hW, hP2, c1, c2, c3, w1, hlt, hsl, hdl, cellsOf?, wr]
      · have e : refOffer room m k c = (m, false) := by
          unfold refOffer
          rw [if_neg (by omega), hla, if_neg c3]
        rw [e]
        simp -implicitDefEqProofs [Try.f18, cItms, cItm, hW, c1, c2, c3, w1, hlt]
theorem refGet (m : List Itm) (k : ByteArray) (hl : m.length < 900) :
    TV.pu 20 [.one (cItms m), .one (.v (.string k))] = some (.tup [(false, [.v (.int .i64 ((mget k m).getD 0))]), (false, [.v (.bool (mget k m).isSome)])]) := by
  refine run20 (by simp) ?_
  simp -implicitDefEqProofs [Try.f20, cItms]
  obtain ⟨I, hI⟩ : ∃ I : Nat → St → Prop, ∀ n s', I n s' ↔ (∃ e i, s' = ⟨e, []⟩ ∧ e 0 = .one (.c (.arr (m.map cItm))) ∧ e 1 = vS k ∧ e 6 = vI .i64 (i : Nat) ∧ i + n = m.length ∧ mget k m = mget k (m.drop i)) := ⟨_, fun _ _ => Iff.rfl⟩
  refine wpL_ind I ?_ m.length _ ((hI _ _).2 ⟨_, 0, rfl, by simp, by simp, by simp, by omega, by simp⟩)
  intro n st hst
  obtain ⟨e, i, rfl, e0, e1, e6, hn, hg⟩ := (hI _ _).1 hst
  by_cases c : i < m.length
  · have w1 : IntKind.i64.wrap ((i : Int) + 1) = ((i + 1 : Nat) : Int) := by rw [w64_id (by omega) (by omega)]; omega
    rw [List.drop_eq_getElem_cons c] at hg
    by_cases d : m[i].1 = k
    · have hg' : mget k m = some m[i].2 := by rw [hg]; unfold mget; rw [if_pos d.symm]
      rw [hg']
      simp -implicitDefEqProofs [e0, e1, e6, c, cItm, sbin_eql, d]
    · have hg' : mget k m = mget k (m.drop (i + 1)) := by rw [hg]; exact if_neg (fun h => d h.symm)
      simp -implicitDefEqProofs [e0, e1, e6, c, cItm, sbin_eql, toList_inj, d, w1]
      exact ⟨n - 1, by omega, (hI _ _).2 ⟨_, i + 1, rfl, by simp [e0], by simp [e1], by simp, by omega, hg'⟩⟩
  · have hg' : mget k m = none := by rw [hg, List.drop_eq_nil_iff.2 (by omega)]; rfl
    rw [hg']
    simp -implicitDefEqProofs [e0, e6, c]

/-! Of no heap. -/
theorem offer_no {H : Hp} {key : ByteArray} {count : Int} : TV.S 11 [hN, vS key, vI .i64 count] H = some (vB false, H) := by
  refine run11 (by simp) (Nat.le_refl _) ?_
  simp -implicitDefEqProofs [Try.f11, hN, bin_pee up23]
theorem get_no {H : Hp} {key : ByteArray} : TV.S 13 [hN, vS key] H = some (.tup [(false, [.c (.v (.int .i64 0))]), (false, [.c (.v (.bool false))])], H) := by
  refine run13 (by simp) (Nat.le_refl _) ?_
  simp -implicitDefEqProofs [Try.f13, hN, bin_pee up23]
theorem check_no {H : Hp} : TV.S 17 [hN] H = some (vB false, H) := by
  refine run17 (by simp) (Nat.le_refl _) ?_
  simp -implicitDefEqProofs [Try.f17, hN, bin_pee up23]
theorem list_no {H : Hp} : ∃ r, TV.S 15 [hN] H = some (r, H ++ [.clo [] false, .clo [] false]) ∧ ∃ id, r = .one (.sl id 0 0 0) ∧ (H ++ [.clo [] false, .clo [] false])[id]? = some (.clo [] false) := by
  refine ⟨.one (.sl (H.length + 1) 0 0 0), run15 (by simp) (by simp) ?_, ?_⟩
  rotate_left
  · exact ⟨H.length + 1, rfl, by simp⟩
  · simp -implicitDefEqProofs [Try.f15, hN, bin_pee up23, vmove, isNil]
end Go.Proofs.YtapkbkbjfekldaaF
end

section
/- A heap that stands in front of all else; a heap to which all was offered; a fixed answer. -/
namespace Go.Proofs.YtapkbkbjfekldaaF
open Go Go.Proofs.Vm

/-- A heap, in its first three places. -/
def hZ (K : Hp) (room : Int) (l : List Itm) (M : MS) (L : Hp) : Hp :=
  K ++ M.ent :: .clo (l.map cItm) false :: .opn [[.c (.v (.int .i64 room)), .sl (K.length + 1) 0 l.length l.length, .mp K.length]] false :: L
def K3 (K : Hp) : Hp := K ++ [.clo [] false, .clo [] false, .clo [] false]
theorem three (K : Hp) : Three (K3 K) (K.length + 1) K.length (K.length + 2) := ⟨by simp [K3], by simp [K3], by simp [K3], by omega, by omega, by omega⟩
theorem hZ_eq (K : Hp) (room : Int) (l : List Itm) (M : MS) (L : Hp) : hH (K3 K) (K.length + 2) (K.length + 1) K.length room l M L = hZ K room l M L := by
  simp [hH, hq, hZ, K3]

theorem mget_at : ∀ {l : List Itm} {i : Nat} (h : i < l.length), Keys l → mget l[i].1 l = some l[i].2
  | x :: r, 0, _, _ => if_pos rfl
  | x :: r, i + 1, h, hk => by
    have hk' := List.nodup_cons.1 hk
    have hi : i < r.length := by simpa using h
    have : ¬ r[i].1 = x.1 := fun e => hk'.1 (by
      show x.1 ∈ r.map (·.1)
      rw [← e]
      exact List.mem_map_of_mem (List.getElem_mem hi))
    exact (if_neg this).trans (mget_at hi hk'.2)
theorem hZ_len (K : Hp) (room : Int) (l : List Itm) (M : MS) (L : Hp) : (hZ K room l M L).length = K.length + L.length + 3 := by simp [hZ]; omega
theorem hZ_app (K : Hp) (room : Int) (l : List Itm) (M : MS) (L R : Hp) : hZ K room l M L ++ R = hZ K room l M (L ++ R) := by simp [hZ]
theorem hZ_get (K : Hp) (room : Int) (l : List Itm) (M : MS) (L : Hp) (j : Nat) : (hZ K room l M L)[K.length + j + 3]? = L[j]? := by
  unfold hZ
  rw [List.getElem?_append_right (by omega), show K.length + j + 3 - K.length = j + 1 + 1 + 1 by omega]
  rfl
theorem hZ_set (K : Hp) (room : Int) (l : List Itm) (M : MS) (L : Hp) (j : Nat) (u : Ent) : (hZ K room l M L).set (K.length + j + 3) u = hZ K room l M (L.set j u) := by
  unfold hZ
  rw [List.set_append_right _ _ (by omega), show K.length + j + 3 - K.length = j + 1 + 1 + 1 by omega]
  rfl
theorem hZ0_len (room : Int) (l : List Itm) (M : MS) (L : Hp) : (hZ [] room l M L).length = L.length + 3 := rfl
theorem hZ0_get (room : Int) (l : List Itm) (M : MS) (L : Hp) (j : Nat) : (hZ [] room l M L)[j + 3]? = L[j]? := rfl
theorem hZ0_gete (room : Int) (l : List Itm) (M : MS) (L : Hp) (j : Nat) (h : j + 3 < (hZ [] room l M L).length) : (hZ [] room l M L)[j + 3]'h = L[j]'(Nat.lt_of_add_lt_add_right h) := rfl
theorem hZ0_set (room : Int) (l : List Itm) (M : MS) (L : Hp) (j : Nat) (u : Ent) : (hZ [] room l M L).set (j + 3) u = hZ [] room l M (L.set j u) := rfl
section
variable {K : Hp} {room : Int} {l : List Itm} {M : MS} {L : Hp}
theorem offerZ (hr1 : 1 ≤ room) (hv : Inv l M) (hl : l.length < 500) (key : ByteArray) (count : Int) :
    ∃ b l' M' G, TV.S 11 [hP (K.length + 2), vS key, vI .i64 count] (hZ K room l M L) = some (vB b, hZ K room l' M' (L ++ G)) ∧ Inv l' M' ∧ OfferR room l key count b l' := by
  obtain ⟨a, K', e, b, l', M', G, rfl, rfl, h1, h2⟩ := offer (three K) (L := L) hr1 hv hl key count
  rw [hZ_eq, hZ_eq] at e
  exact ⟨b, l', M', G, e, h1, h2⟩
theorem getZ (hv : Inv l M) (key : ByteArray) : TV.S 13 [hP (K.length + 2), vS key] (hZ K room l M L) = some (.tup [(false, [.c (.v (.int .i64 ((mget key l).getD 0)))]), (false, [.c (.v (.bool (mget key l).isSome))])], hZ K room l M L) := by
  obtain ⟨n, b, e, h⟩ := get_ (three K) (room := room) (L := L) hv.ix hv.ok key
  rw [hZ_eq] at e
  rw [e]
  rcases h with ⟨i, hi, hk, rfl, rfl⟩ | ⟨hno, rfl, rfl⟩
  · subst hk
    have := mget_at hi (ix_keys hv.ix)
    rw [this]; rfl
  · have : mget key l = none := mget_none_of fun h => by
      obtain ⟨x, hx, e⟩ := List.mem_map.1 h
      obtain ⟨i, hi, rfl⟩ := List.getElem_of_mem hx
      exact hno i hi e
    rw [this]; rfl
theorem lastZ (h : 0 < l.length) : ∃ G, TV.S 16 [hP (K.length + 2)] (hZ K room l M L) = some (.tup [(true, [.c (.v (.string l[0].1)), .c (.v (.int .i64 l[0].2))]), (false, [.c (.v (.bool true))])], hZ K room l M (L ++ G)) := by
  obtain ⟨G, e⟩ := last_ (three K) (room := room) (M := M) (L := L) h
  rw [hZ_eq, hZ_eq] at e
  exact ⟨G, e⟩
theorem checkZ (hv : Inv l M) (hr : (l.length : Int) ≤ room) (hl : l.length < 1000) : ∃ G, TV.S 17 [hP (K.length + 2)] (hZ K room l M L) = some (vB true, hZ K room l M (L ++ G)) := by
  obtain ⟨a, K', e, G, rfl, rfl⟩ := check_ (three K) (room := room) (L := L) hv hr hl
  rw [hZ_eq, hZ_eq] at e
  exact ⟨G, e⟩
theorem listZ (hl : l.length < 1000) : TV.S 15 [hP (K.length + 2)] (hZ K room l M L) = some (.one (.sl (K.length + L.length + 5) 0 l.length l.length), hZ K room l M (L ++ [.clo [] false, .clo [] false, .clo ((isort ordI l).map cItm) false])) := by
  have e := list_ (three K) (room := room) (M := M) (L := L) hl
  rw [hZ_eq, hZ_eq] at e
  rw [e]
  simp [K3]
  omega
theorem newZ {H : Hp} (h1 : 1 ≤ room) (h2 : room ≤ 64) : TV.S 8 [vI .i64 room] H = some (hP (H.length + 2), hZ H room [] MS.empty []) := new_yes h1 h2
end
theorem inv_nil : Inv [] MS.empty := ⟨ix_nil, MS.empty_ok, heap_nil⟩
theorem like_nil : Like [] [] := ⟨.refl _, .nil⟩

/-- All offered, one after the other. -/
def refAll (room : Int) (l : List Itm) : List Itm := l.foldl (fun m x => (refOffer room m x.1 x.2).1) []
theorem refAll_snoc (room : Int) (l : List Itm) (x : Itm) : refAll room (l ++ [x]) = (refOffer room (refAll room l) x.1 x.2).1 := by simp [refAll]
theorem refAll_take {room : Int} {l : List Itm} {i : Nat} (h : i < l.length) : refAll room (l.take (i + 1)) = (refOffer room (refAll room (l.take i)) l[i].1 l[i].2).1 := by
  rw [List.take_add_one, List.getElem?_eq_getElem h]
  exact refAll_snoc _ _ _

/-- What stands in a heap after so many offers. -/
structure Told (room : Int) (l : List Itm) (M : MS) (m : List Itm) (n : Nat) : Prop where
  inv : Inv l M
  like : Like l m
  few : l.length ≤ n
  room : (l.length : Int) ≤ room
  pos : 0 < n → 0 < l.length
theorem told_nil {room : Int} (h : 1 ≤ room) : Told room [] MS.empty [] 0 := ⟨inv_nil, like_nil, Nat.le_refl _, by simp; omega, fun h => absurd h (Nat.lt_irrefl _)⟩
theorem Told.step {room : Int} {l m : List Itm} {M : MS} {n : Nat} (T : Told room l M m n) {k : ByteArray} {c : Int} {b : Bool} {l' : List Itm} {M' : MS} (hv : Inv l' M') (ho : OfferR room l k c b l') : Told room l' M' (refOffer room m k c).1 (n + 1) ∧ b = (refOffer room m k c).2 := by
  obtain ⟨h1, h2⟩ := offer_like (ix_keys T.inv.ix) T.inv.hp T.like ho
  obtain ⟨k1, k2, k3⟩ := offer_len ho
  exact ⟨⟨hv, h1, by have := T.few; omega, k3 T.room, fun _ => k2⟩, h2⟩

theorem of_no {room : Int} {H : Hp} {l : List Itm} (h : room < 1 ∨ 64 < room) (hl : l.length < 4611686018427387904) : ∃ a K, TV.S 14 [vI .i64 room, .one (.c (cItms l))] H = some (a, K) ∧ ∃ G, a = hN ∧ K = H ++ G := by
  refine runX14 (by simp) (by rintro a K' ⟨G, -, rfl⟩; simp) ?_
  have hn := fun H => new_no (H := H) h
  have ho := fun H k c => offer_no (H := H) (key := k) (count := c)
  simp only [hN] at hn ho
  simp -implicitDefEqProofs [Try.f14, cItms, hn]
  obtain ⟨I, hI⟩ : ∃ I : Nat → St → Prop, ∀ n s', I n s' ↔ (∃ e i G, s' = ⟨e, H ++ G⟩ ∧ e 5 = hN ∧ e 10 = .one (.c (.arr (l.map cItm))) ∧ e 11 = vI .i64 l.length ∧ e 12 = vI .i64 (i : Nat) ∧ i + n = l.length) := ⟨_, fun _ _ => Iff.rfl⟩
  refine wpL_ind I ?_ l.length _ ((hI _ _).2 ⟨_, 0, [], by rw [List.append_nil], by simp [hN], by simp, by simp, by simp, by omega⟩)
  intro n st hst
  obtain ⟨e, i, G, rfl, e5, e10, e11, e12, hk⟩ := (hI _ _).1 hst
  by_cases c : i < l.length
  · have w1 : IntKind.i64.wrap ((i : Int) + 1) = ((i + 1 : Nat) : Int) := by rw [w64_id (by omega) (by omega)]; omega
    simp -implicitDefEqProofs [e5, e10, e11, e12, c, hN, cItm, ho, w1, vstore, cellsOf?, Ent.wrO, wr]
    exact ⟨n - 1, by omega, (hI _ _).2 ⟨_, i + 1, _, rfl, by simp [e5, hN], by simp [e10], by simp [e11], by simp, by omega⟩⟩
  · simp -implicitDefEqProofs [e5, e11, e12, c, hN]

theorem of_yes {room : Int} {H : Hp} {l : List Itm} (h1 : 1 ≤ room) (h2 : room ≤ 64) (hl : l.length < 4611686018427387904) : ∃ a K, TV.S 14 [vI .i64 room, .one (.c (cItms l))] H = some (a, K) ∧ ∃ l' M G, a = hP (H.length + 2) ∧ K = hZ H room l' M G ∧ Told room l' M (refAll room l) l.length := by
  refine runX14 (by simp) (by rintro a K' ⟨l', M, G, -, rfl, -⟩; simp [hZ]) ?_
  have hn := newZ (H := H) h1 h2
  simp only [hP] at hn
  simp -implicitDefEqProofs [Try.f14, cItms, hn]
  obtain ⟨I, hI⟩ : ∃ I : Nat → St → Prop, ∀ n s', I n s' ↔ (∃ e i l' M G, s' = ⟨e, hZ H room l' M G⟩ ∧ e 5 = hP (H.length + 2) ∧ e 10 = .one (.c (.arr (l.map cItm))) ∧ e 11 = vI .i64 l.length ∧ e 12 = vI .i64 (i : Nat) ∧ i + n = l.length ∧ Told room l' M (refAll room (l.take i)) i) := ⟨_, fun _ _ => Iff.rfl⟩
  refine wpL_ind I ?_ l.length _ ((hI _ _).2 ⟨_, 0, [], MS.empty, [], rfl, by simp [hP], by simp, by simp, by simp, by omega, told_nil h1⟩)
  intro n st hst
  obtain ⟨e, i, l', M, G, rfl, e5, e10, e11, e12, hk, T⟩ := (hI _ _).1 hst
  by_cases c : i < l.length
  · have w1 : IntKind.i64.wrap ((i : Int) + 1) = ((i + 1 : Nat) : Int) := by rw [w64_id (by omega) (by omega)]; omega
    obtain ⟨b, l2, M2, G2, eo, v2, o2⟩ := offerZ (K := H) (L := G ++ [.opn [[.c (.v (.string l[i].1)), .c (.v (.int .i64 l[i].2))]] false]) h1 T.inv (by have := T.room; omega) l[i].1 l[i].2
    obtain ⟨T2, -⟩ := T.step v2 o2
    rw [← refAll_take c] at T2
    have zl := hZ_len H room l' M G
    have za := hZ_app H room l' M
    have zg : ∀ x, (hZ H room l' M (G ++ [x]))[H.length + G.length + 3]? = some x := fun x => by rw [hZ_get]; simp
    have zs : ∀ x y, (hZ H room l' M (G ++ [x])).set (H.length + G.length + 3) y = hZ H room l' M (G ++ [y]) := fun x y => by rw [hZ_set]; simp
    simp only [hP] at eo
    simp -implicitDefEqProofs [e5, e10, e11, e12, c, hP, cItm, zl, za, zg, zs, eo, w1, vstore, cellsOf?, Ent.wrO, wr]
    exact ⟨n - 1, by omega, (hI _ _).2 ⟨_, i + 1, _, _, _, rfl, by simp [e5, hP], by simp [e10], by simp [e11], by simp, by omega, T2⟩⟩
  · have hi : i = l.length := by omega
    subst hi
    rw [List.take_of_length_le (Nat.le_refl _)] at T
    simp -implicitDefEqProofs [e5, e11, e12]
    exact ⟨l', M, ⟨G, rfl⟩, T⟩

/-! The same, with what lies behind told by what was there. -/
def Grow (L L' : Hp) : Prop := ∃ G, L' = L ++ G
theorem Grow.refl (L : Hp) : Grow L L := ⟨[], by simp⟩
theorem Grow.trans {A B C : Hp} (h : Grow A B) (k : Grow B C) : Grow A C := by
  obtain ⟨G, rfl⟩ := h; obtain ⟨G', rfl⟩ := k; exact ⟨G ++ G', by simp⟩
theorem Grow.app (L : Hp) (R : Hp) : Grow L (L ++ R) := ⟨R, rfl⟩
theorem Grow.get {L L' : Hp} (h : Grow L L') {j : Nat} {x : Ent} (g : L[j]? = some x) : L'[j]? = some x := by
  obtain ⟨G, rfl⟩ := h
  rw [List.getElem?_append_left (List.getElem?_eq_some_iff.1 g).1]; exact g

def hP2 : AV := .one (.ptr ⟨2, 0, 0, 1⟩)
section
variable {room : Int} {l : List Itm} {M : MS} {L : Hp}
theorem offerO (hr1 : 1 ≤ room) (hv : Inv l M) (hl : l.length < 500) (key : ByteArray) (count : Int) :
    ∃ b l' M' L', TV.S 11 [hP2, vS key, vI .i64 count] (hZ [] room l M L) = some (vB b, hZ [] room l' M' L') ∧ Grow L L' ∧ Inv l' M' ∧ OfferR room l key count b l' := by
  obtain ⟨b, l', M', G, e, h1, h2⟩ := offerZ (K := []) (L := L) hr1 hv hl key count
  exact ⟨b, l', M', _, e, .app _ _, h1, h2⟩
theorem getO (hv : Inv l M) (key : ByteArray) : TV.S 13 [hP2, vS key] (hZ [] room l M L) = some (.tup [(false, [.c (.v (.int .i64 ((mget key l).getD 0)))]), (false, [.c (.v (.bool (mget key l).isSome))])], hZ [] room l M L) := getZ (K := []) hv key
theorem lastO (h : 0 < l.length) : ∃ L', TV.S 16 [hP2] (hZ [] room l M L) = some (.tup [(true, [.c (.v (.string l[0].1)), .c (.v (.int .i64 l[0].2))]), (false, [.c (.v (.bool true))])], hZ [] room l M L') ∧ Grow L L' := by
  obtain ⟨G, e⟩ := lastZ (K := []) (room := room) (M := M) (L := L) h
  exact ⟨_, e, .app _ _⟩
theorem checkO (hv : Inv l M) (hr : (l.length : Int) ≤ room) (hl : l.length < 1000) : ∃ L', TV.S 17 [hP2] (hZ [] room l M L) = some (vB true, hZ [] room l M L') ∧ Grow L L' := by
  obtain ⟨G, e⟩ := checkZ (K := []) (L := L) hv hr hl
  exact ⟨_, e, .app _ _⟩
theorem listO (hl : l.length < 1000) : ∃ id L', TV.S 15 [hP2] (hZ [] room l M L) = some (.one (.sl id 0 l.length l.length), hZ [] room l M L') ∧ Grow L L' ∧ (hZ [] room l M L')[id]? = some (.clo ((isort ordI l).map cItm) false) := by
  have e := listZ (K := []) (room := room) (M := M) (L := L) hl
  refine ⟨_, _, e, .app _ _, ?_⟩
  simp only [List.length_nil, Nat.zero_add]
  rw [hZ0_get (j := L.length + 2), List.getElem?_append_right (by omega), Nat.add_sub_cancel_left]
  rfl
end
/-- To which all was offered, and its list. -/
theorem ofList {room : Int} {H : Hp} {l : List Itm} (h1 : 1 ≤ room) (h2 : room ≤ 64) (hl : l.length < 400) : ∃ p K' id K'', TV.S 14 [vI .i64 room, .one (.c (.arr (l.map cItm)))] H = some (p, K') ∧ TV.S 15 [p] K' = some (.one (.sl id 0 (refAll room l).length (refAll room l).length), K'') ∧ Grow H K'' ∧ K''[id]? = some (.clo ((refAll room l).map cItm) false) := by
  obtain ⟨a, K, e, l', M, G, rfl, rfl, T⟩ := of_yes (H := H) (l := l) h1 h2 (by omega)
  have e2 := listZ (K := H) (room := room) (M := M) (L := G) (l := l') (by have := T.few; omega)
  rw [T.like.isort, T.like.perm.length_eq] at e2
  refine ⟨_, _, _, _, e, e2, ⟨_, rfl⟩, ?_⟩
  rw [show H.length + G.length + 5 = H.length + (G.length + 2) + 3 by omega, hZ_get, List.getElem?_append_right (by omega), Nat.add_sub_cancel_left]
  rfl
end Go.Proofs.YtapkbkbjfekldaaF
end

section
/- The fixed answer, and the statement of no heap. -/
namespace Go.Proofs.YtapkbkbjfekldaaF
open Go Go.Proofs.Vm

set_option maxRecDepth 20000 in
theorem awake : TV.pu 10 [] = some (cB true) := by
  refine run10 (by simp) ?_
  have hn := newZ (H := []) (room := 2) (by decide) (by decide)
  obtain ⟨b1, l1, M1, G1, o1, v1, r1⟩ := offerZ (K := []) (L := []) (room := 2) (by decide) inv_nil (by simp) ⟨#[97]⟩ 1
  obtain ⟨T1, rfl⟩ := (told_nil (room := 2) (by decide)).step v1 r1
  obtain ⟨b2, l2, M2, G2, o2, v2, r2⟩ := offerZ (K := []) (L := G1) (room := 2) (by decide) T1.inv (by have := T1.few; omega) ⟨#[98]⟩ 2
  obtain ⟨T2, rfl⟩ := T1.step v2 r2
  obtain ⟨b3, l3, M3, G3, o3, v3, r3⟩ := offerZ (K := []) (L := G1 ++ G2) (room := 2) (by decide) T2.inv (by have := T2.few; omega) ⟨#[99]⟩ 1
  obtain ⟨T3, rfl⟩ := T2.step v3 r3
  obtain ⟨b4, l4, M4, G4, o4, v4, r4⟩ := offerZ (K := []) (L := G1 ++ G2 ++ G3) (room := 2) (by decide) T3.inv (by have := T3.few; omega) ⟨#[99]⟩ 2
  obtain ⟨T4, rfl⟩ := T3.step v4 r4
  have c1 : refOffer 2 [] ⟨#[97]⟩ 1 = ([(⟨#[97]⟩, 1)], true) := by decide
  have c2 : refOffer 2 [(⟨#[97]⟩, 1)] ⟨#[98]⟩ 2 = ([(⟨#[98]⟩, 2), (⟨#[97]⟩, 1)], true) := by decide
  have c3 : refOffer 2 [(⟨#[98]⟩, 2), (⟨#[97]⟩, 1)] ⟨#[99]⟩ 1 = ([(⟨#[98]⟩, 2), (⟨#[97]⟩, 1)], false) := by decide
  have c4 : refOffer 2 [(⟨#[98]⟩, 2), (⟨#[97]⟩, 1)] ⟨#[99]⟩ 2 = ([(⟨#[98]⟩, 2), (⟨#[99]⟩, 2)], true) := by decide
  simp only [c1, c2, c3, c4] at o1 o2 o3 o4 T4
  have hL := listZ (K := []) (room := 2) (l := l4) (M := M4) (L := G1 ++ G2 ++ G3 ++ G4) (by have := T4.few; omega)
  rw [T4.like.isort] at hL
  have hl4 : l4.length = 2 := T4.like.perm.length_eq
  obtain ⟨G5, hC⟩ := checkZ (K := []) (room := 2) (L := G1 ++ (G2 ++ (G3 ++ (G4 ++ [.clo [] false, .clo [] false, .clo [cItm (⟨#[98]⟩, 2), cItm (⟨#[99]⟩, 2)] false])))) T4.inv T4.room (by have := T4.few; omega)
  simp only [List.nil_append, List.append_assoc, hP, List.length_nil, Nat.zero_add, hl4, List.map_cons, List.map_nil] at hn o1 o2 o3 o4 hL hC
  simp only [cItm] at hL hC
  have hg : (hZ [] 2 l4 M4 (G1 ++ (G2 ++ (G3 ++ (G4 ++ [.clo [] false, .clo [] false, .clo [[.v (.string ⟨#[98]⟩), .v (.int .i64 2)], [.v (.string ⟨#[99]⟩), .v (.int .i64 2)]] false])))))[(G1 ++ (G2 ++ (G3 ++ G4))).length + 5]? = some (.clo [[.v (.string ⟨#[98]⟩), .v (.int .i64 2)], [.v (.string ⟨#[99]⟩), .v (.int .i64 2)]] false) := by
    rw [hZ0_get (j := (G1 ++ (G2 ++ (G3 ++ G4))).length + 2)]
    rw [show G1 ++ (G2 ++ (G3 ++ (G4 ++ [.clo [] false, .clo [] false, .clo [[.v (.string ⟨#[98]⟩), .v (.int .i64 2)], [.v (.string ⟨#[99]⟩), .v (.int .i64 2)]] false]))) = (G1 ++ (G2 ++ (G3 ++ G4))) ++ [.clo [] false, .clo [] false, .clo [[.v (.string ⟨#[98]⟩), .v (.int .i64 2)], [.v (.string ⟨#[99]⟩), .v (.int .i64 2)]] false] by simp]
    rw [List.getElem?_append_right (by omega), Nat.add_sub_cancel_left]
    rfl
  generalize (G1 ++ (G2 ++ (G3 ++ G4))).length + 5 = id at hL hg
  simp -implicitDefEqProofs [Try.f10, hn, o1, o2, o3, o4, hL, hC, hg, sbin_eql]

end Go.Proofs.YtapkbkbjfekldaaF
end

section
/- Out of data: items. -/
namespace Go.Proofs.YtapkbkbjfekldaaF
open Go Go.Proofs.Vm

theorem items_of : ∀ {L : List (List CV)}, (∀ e ∈ L, e.length = 2 ∧ good28 e) → ∃ l : List Itm, L = l.map cItm
  | [], _ => ⟨[], rfl⟩
  | e :: L, h => by
    obtain ⟨l, rfl⟩ := items_of (L := L) fun x hx => h x (by simp [hx])
    obtain ⟨_, a, b, rfl, ⟨s, rfl, _⟩, n, rfl, _⟩ := h e (by simp)
    exact ⟨(s, n) :: l, rfl⟩
theorem items_good {x : CV} (h : good22 [x]) : ∃ l : List Itm, x = cItms l ∧ l.length < 4611686018427387904 := by
  obtain ⟨L, hx, hg, hw⟩ := h
  cases hx
  obtain ⟨l, rfl⟩ := items_of hg
  rw [List.length_map] at hw
  exact ⟨l, rfl, by omega⟩
theorem int_good {x : CV} (h : isI .i64 [x]) : ∃ n : Int, x = .v (.int .i64 n) := by
  obtain ⟨n, hx, _⟩ := h
  cases hx
  exact ⟨n, rfl⟩
theorem str_good {x : CV} (h : isS [x]) : ∃ s : ByteArray, x = .v (.string s) := by
  obtain ⟨n, hx, _⟩ := h
  cases hx
  exact ⟨n, rfl⟩
end Go.Proofs.YtapkbkbjfekldaaF
end

section
/- Structs of strings and numbers, compared. -/
namespace Go.Proofs.Vm
open Go

variable {P : Program} {H : Hp}

theorem eq_strD {t : TypeId} (hu : pv P (underlying t) = some .string) (a b : ByteArray) (d : Nat) : pv P (Op.equalIn (d + 1) t (.string a) (.string b)) = some (a == b) := by
  unfold Op.equalIn
  simp [hu]
theorem eq_intD {t : TypeId} {k : IntKind} (hu : pv P (underlying t) = some (.int k)) (a b : Int) (d : Nat) : pv P (Op.equalIn (d + 1) t (.int k a) (.int k b)) = some (a == b) := by
  unfold Op.equalIn
  simp [hu]

theorem pv_of {t : TypeId} {d : TypeDesc} (h : P.underlying t = some d) : pv P (underlying t) = some d := by
  unfold underlying
  simp [h]
/-- Of one string and one number. -/
theorem eq_st2 {t : TypeId} {f0 f1 : Field} {k : IntKind} (hu : pv P (underlying t) = some (.struct #[f0, f1])) (hs : P.stoodInHeld t = false) (n0 : (f0.name == "_") = false) (n1 : (f1.name == "_") = false) (o0 : f0.offset = 0) (o1 : f1.offset = 1)
    (a0 : pv P (isAgg f0.type) = some false) (a1 : pv P (isAgg f1.type) = some false) (u0 : pv P (underlying f0.type) = some .string) (u1 : pv P (underlying f1.type) = some (.int k)) (a b : ByteArray) (x y : Int) (d : Nat) :
    pv P (Op.equalIn (d + 2) t (.agg #[.string a, .int k x]) (.agg #[.string b, .int k y])) = some (a == b && x == y) := by
  have m0 : ¬ f0.name = "_" := fun h => by rw [h] at n0; simp at n0
  have m1 : ¬ f1.name = "_" := fun h => by rw [h] at n1; simp at n1
  unfold Op.equalIn
  cases h0 : a == b <;> cases h1 : x == y <;> simp [hu, hs, m0, m1, o0, o1, part, a0, a1, eq_strD u0, eq_intD u1, h0, h1]

theorem bin_st2 {t : TypeId} {f0 f1 : Field} {k : IntKind} (hu : pv P (underlying t) = some (.struct #[f0, f1])) (hs : P.stoodInHeld t = false) (hg : P.eqGuardType P.depth t = false) (n0 : (f0.name == "_") = false) (n1 : (f1.name == "_") = false) (o0 : f0.offset = 0) (o1 : f1.offset = 1)
    (a0 : pv P (isAgg f0.type) = some false) (a1 : pv P (isAgg f1.type) = some false) (u0 : pv P (underlying f0.type) = some .string) (u1 : pv P (underlying f1.type) = some (.int k)) {a b : ByteArray} {x y : Int} {p q : Operand} :
    vbin P H .eql t p q (.agg [.c (.v (.string a)), .c (.v (.int k x))]) (.agg [.c (.v (.string b)), .c (.v (.int k y))]) = qa (vB (a == b && x == y)) ∧
    vbin P H .neq t p q (.agg [.c (.v (.string a)), .c (.v (.int k x))]) (.agg [.c (.v (.string b)), .c (.v (.int k y))]) = qa (vB (!(a == b && x == y))) := by
  have h := eq_st2 hu hs n0 n1 o0 o1 a0 a1 u0 u1 a b x y 9998
  constructor <;> simp [vbin, vbin0, neSl, isNils, isPtr, isNilp, fresh, AV.sc, scs, Cell.sc, eqGuard, hg, binOp, ofPv, one?, Value.oneCell', Op.equal, Op.maxDepth, h]
/-- A pointer that is none, and one that is not. -/
theorem bin_pnn {t e : TypeId} (hu : pv P (underlying t) = some (.pointer e)) {x y : Operand} {p : Pt} (hl : lenIs H p.id p.tot = true) : vbin P H .neq t x y (.one (.ptr p)) (.one (.c (.v (.pointer none)))) = qa (vB true) := by
  simp [-lenIs, vbin, vbin0, neSl, isNils, isPtr, isNilp, fresh, hl, hu, one?, Value.oneCell']
theorem bin_pen {t e : TypeId} (hu : pv P (underlying t) = some (.pointer e)) {x y : Operand} : vbin P H .neq t x y (.one (.c (.v (.pointer none)))) (.one (.c (.v (.pointer none)))) = qa (vB false) := by
  simp [vbin, vbin0, neSl, isNils, isPtr, isNilp, fresh, AV.sc, Cell.sc, eqGuard, binOp, ofPv, one?, Value.oneCell', Op.equal, Op.maxDepth, eq_nil hu 9999]
end Go.Proofs.Vm
end

section
/- Items stand by falling counts, of one count by rising keys. -/
namespace Go.Proofs.YtapkbkbjfekldaaF
open Go Go.Proofs.Vm

theorem itm_eql {H : Hp} {a b : ByteArray} {x y : Int} {p q : Operand} : vbin Try.prog H .eql 28 p q (.agg [.c (.v (.string a)), .c (.v (.int .i64 x))]) (.agg [.c (.v (.string b)), .c (.v (.int .i64 y))]) = qa (vB (a == b && x == y)) :=
  (bin_st2 (P := Try.prog) (t := 28) (pv_of Try.underlying28) (by kernel_rfl) (by kernel_rfl) (by kernel_rfl) (by kernel_rfl) (by kernel_rfl) (by kernel_rfl) (by kernel_rfl) (by kernel_rfl) us9 (by kernel_rfl)).1
theorem sbin_geq {P : Program} {H : Hp} {t : TypeId} {x y : Operand} {u v : ByteArray} : vbin P H .geq t x y (vS u) (vS v) = qa (vB (!Op.bytesLess u.toList v.toList)) := by
  simp [vbin, vbin0, neSl, isNils, isPtr, isNilp, AV.sc, Cell.sc, eqGuard, binOp, Op.stringOp, ofPv, one?, Value.oneCell']
theorem few_len {l : List Itm} (h : fewB l = true) : l.length ≤ 150 := by
  unfold fewB at h
  rw [Bool.and_eq_true] at h
  exact of_decide_eq_true h.2
theorem hZ_grow {room : Int} {l : List Itm} {M : MS} {L L' : Hp} (g : Grow L L') {id : Nat} {x : Ent} (h : (hZ [] room l M L)[id]? = some x) : (hZ [] room l M L')[id]? = some x := by
  obtain ⟨G, rfl⟩ := g
  rw [← hZ_app, List.getElem?_append_left (List.getElem?_eq_some_iff.1 h).1]
  exact h
theorem hZ0_0 (room : Int) (l : List Itm) (M : MS) (L : Hp) : (hZ [] room l M L)[0]? = some M.ent := rfl
theorem hZ0_1 (room : Int) (l : List Itm) (M : MS) (L : Hp) : (hZ [] room l M L)[1]? = some (.clo (l.map cItm) false) := rfl
theorem hZ0_2 (room : Int) (l : List Itm) (M : MS) (L : Hp) : (hZ [] room l M L)[2]? = some (.opn [[.c (.v (.int .i64 room)), .sl 1 0 l.length l.length, .mp 0]] false) := rfl

theorem hZ0_g1 (room : Int) (l : List Itm) (M : MS) (L : Hp) (h : 1 < (hZ [] room l M L).length) : (hZ [] room l M L)[1]'h = .clo (l.map cItm) false := rfl
theorem hZ0_g2 (room : Int) (l : List Itm) (M : MS) (L : Hp) (h : 2 < (hZ [] room l M L).length) : (hZ [] room l M L)[2]'h = .opn [[.c (.v (.int .i64 room)), .sl 1 0 l.length l.length, .mp 0]] false := rfl
theorem last_any {room : Int} {l : List Itm} {M : MS} {L : Hp} : ∃ kk cc ok L', TV.S 16 [hP2] (hZ [] room l M L) = some (.tup [(true, [.c (.v (.string kk)), .c (.v (.int .i64 cc))]), (false, [.c (.v (.bool ok))])], hZ [] room l M L') ∧ Grow L L' ∧ ok = decide (0 < l.length) ∧ ∀ h : 0 < l.length, kk = l[0].1 ∧ cc = l[0].2 := by
  by_cases h : 0 < l.length
  · obtain ⟨L', e, g⟩ := lastO (room := room) (M := M) (L := L) h
    exact ⟨_, _, _, _, e, g, by simp [h], fun _ => ⟨rfl, rfl⟩⟩
  · have : l = [] := List.length_eq_zero_iff.1 (by omega)
    subst this
    have hl := len_ room []
    simp only [List.map_nil, List.length_nil, Int.natCast_zero] at hl
    refine ⟨ByteArray.empty, 0, false, L ++ [.opn [[.c (.v (.string ByteArray.empty)), .c (.v (.int .i64 0))]] false], run16 (by simp) (by simp [hZ]) ?_, .app _ _, by simp, fun h => absurd h (Nat.lt_irrefl _)⟩
    simp -implicitDefEqProofs [Try.f16, hP2, hl, hZ_app, hZ0_len, hZ0_g1, hZ0_g2, hZ0_gete, hZ0_set, vstore, cellsOf?, Ent.wrO, wr, ownz, nrm]
    exact ⟨_, rfl, rfl⟩

set_option maxRecDepth 20000 in
theorem law_stands (room : Int) (l : List Itm) (hl : l.length < 4611686018427387904) : TV.pu 4 [cI .i64 room, .one (cItms l)] = some (cB true) := by
  refine run4 (by simp) ?_
  have hfew := few l hl
  have haw := awake
  simp only [cItms] at hfew
  by_cases hr : room < 1 ∨ 64 < room
  · obtain ⟨a, K, ho, G, rfl, rfl⟩ := of_no (H := []) hr hl
    simp only [hN, cItms] at ho
    by_cases h1 : room < 1
    · simp -implicitDefEqProofs [Try.f4, cItms, haw, ho, h1, bin_pee up23, bin_pen up23]
    · have h2 : 64 < room := by omega
      simp -implicitDefEqProofs [Try.f4, cItms, haw, ho, h1, h2, bin_pee up23, bin_pen up23]
  · have h1 : 1 ≤ room := by omega
    have h2 : room ≤ 64 := by omega
    obtain ⟨a, K, ho, l', M, G, rfl, rfl, T⟩ := of_yes (H := []) h1 h2 hl
    simp only [hP, cItms, List.length_nil, Nat.zero_add] at ho
    have hll : lenIs (hZ [] room l' M G) 2 1 = true := rfl
    have hpn := fun (x y : Operand) => bin_pne (P := Try.prog) up23 (x := x) (y := y) (p := ⟨2, 0, 0, 1⟩) hll
    have hpq := fun (x y : Operand) => bin_pnn (P := Try.prog) up23 (x := x) (y := y) (p := ⟨2, 0, 0, 1⟩) hll
    cases hf : fewB l with
    | false =>
      rw [hf] at hfew
      simp -implicitDefEqProofs [Try.f4, cItms, hfew, haw, ho, hpn, hpq]
    | true =>
      have hlen := few_len hf
      rw [hf] at hfew
      have hroom := T.room
      have hpos := T.pos
      obtain ⟨id, L2, o2, g2, hg2⟩ := listO (room := room) (l := l') (M := M) (L := G) (by omega)
      rw [T.like.isort] at hg2
      have hml := T.like.perm.length_eq
      have hsrt := T.like.srt
      have hlast := fun h => T.like.last T.inv.hp h
      generalize refAll room l = m at hg2 hml hsrt hlast
      simp only [hP2, hml] at o2
      simp -implicitDefEqProofs [Try.f4, cItms, hfew, ho, hpn, o2]
      obtain ⟨I, hI⟩ : ∃ I : Nat → St → Prop, ∀ n s', I n s' ↔ (∃ e i L, s' = ⟨e, hZ [] room l' M L⟩ ∧ Grow L2 L ∧ e 1 = .one (.c (.arr (l.map cItm))) ∧ e 5 = .one (.ptr ⟨2, 0, 0, 1⟩) ∧ e 6 = .one (.sl id 0 m.length m.length) ∧ e 7 = vI .i64 (i : Nat) ∧ i + n = m.length + 1 ∧ 1 ≤ i) := ⟨_, fun _ _ => Iff.rfl⟩
      refine wpL_ind I ?_ m.length _ ((hI _ _).2 ⟨_, 1, L2, rfl, .refl _, by simp, by simp, by simp, by simp, by omega, by omega⟩)
      intro n st hst
      obtain ⟨e, i, L, rfl, g, e1, e5, e6, e7, hk, hi1⟩ := (hI _ _).1 hst
      have hg := hZ_grow g hg2
      by_cases c : i < m.length
      · have w1 : IntKind.i64.wrap ((i : Int) - 1) = ((i - 1 : Nat) : Int) := by rw [w64_id (by omega) (by omega)]; omega
        have w2 : IntKind.i64.wrap ((i : Int) + 1) = ((i + 1 : Nat) : Int) := by rw [w64_id (by omega) (by omega)]; omega
        have c1 : i - 1 < m.length := by omega
        have hlt : ordI m[i - 1] m[i] < 0 := List.pairwise_iff_getElem.1 hsrt (i - 1) i c1 c (by omega)
        have hcmp := bl_cmpB m[i - 1].1 m[i].1
        have hbox : ∀ (z1 z2 : Ent), Grow L2 (L ++ [z1, z2]) := fun _ _ => g.trans (.app _ _)
        rcases ordI_lt.1 hlt with hh | ⟨hh, hc⟩
        · have d1 : ¬ m[i - 1].2 < m[i].2 := by omega
          have d2 : ¬ m[i - 1].2 = m[i].2 := by omega
          simp -implicitDefEqProofs [e6, e7, c, c1, w1, w2, hg, cItm, hZ_app, hZ0_len, hZ0_gete, hZ0_set, vstore, cellsOf?, Ent.wrO, wr, d1, d2]
          exact ⟨n - 1, by omega, (hI _ _).2 ⟨_, i + 1, _, rfl, hbox _ _, by simp [e1], by simp [e5], by simp [e6], by simp, by omega, by omega⟩⟩
        · have d1 : ¬ m[i - 1].2 < m[i].2 := by omega
          have d2 : m[i - 1].2 = m[i].2 := hh.symm
          rw [decide_eq_true hc] at hcmp
          simp -implicitDefEqProofs [e6, e7, c, c1, w1, w2, hg, cItm, hZ_app, hZ0_len, hZ0_gete, hZ0_set, vstore, cellsOf?, Ent.wrO, wr, d2, sbin_geq, hcmp]
          exact ⟨n - 1, by omega, (hI _ _).2 ⟨_, i + 1, _, rfl, hbox _ _, by simp [e1], by simp [e5], by simp [e6], by simp, by omega, by omega⟩⟩
      · obtain ⟨kk, cc, ok, L3, o3, g3, hok, hkc⟩ := last_any (room := room) (l := l') (M := M) (L := L)
        have hg3 : ∀ z : Ent, (hZ [] room l' M (L3 ++ [z]))[id]? = some (.clo (m.map cItm) false) := fun z => hZ_grow (g.trans (g3.trans (.app _ _))) hg2
        simp only [hP2] at o3
        have hln := len_ room l'
        have htk := take_itm l'
        by_cases hm0 : m.length = 0
        · have hl0 : l'.length = 0 := by omega
          have hll0 : l.length = 0 := by
            rcases Nat.eq_zero_or_pos l.length with h | h
            · exact h
            · have := hpos h; omega
          have hok' : ok = false := by rw [hok, hl0]; rfl
          have hl1 : l = [] := List.length_eq_zero_iff.1 hll0
          have hm1 : m = [] := List.length_eq_zero_iff.1 hm0
          rw [hok'] at o3
          rw [hm1] at hg3 c e6 hg
          simp only [List.length_nil, List.map_nil] at hg3 c e6 hg
          simp -implicitDefEqProofs [e1, e5, e6, e7, hg, hg3, o3, hl1, hZ_app, hZ0_len, hZ0_gete, hZ0_set, vstore, cellsOf?, Ent.wrO, wr, haw]
        · have hl0 : 0 < l'.length := by omega
          have hok' : ok = true := by rw [hok]; exact decide_eq_true hl0
          obtain ⟨rfl, rfl⟩ := hkc hl0
          have hla := hlast hl0
          have hmn : m ≠ [] := by rintro rfl; exact hm0 rfl
          have hmi : ¬ (m.length : Int) = 0 := by omega
          have hm1 : m.length - 1 < m.length := by omega
          have hm2 : m[m.length - 1] = l'[0] := by
            rw [List.getLast?_eq_some_getLast hmn, List.getLast_eq_getElem] at hla
            exact Option.some.inj hla
          have w3 : IntKind.i64.wrap ((m.length : Int) - 1) = ((m.length - 1 : Nat) : Int) := by rw [w64_id (by omega) (by omega)]; omega
          have hbq : (l'[0].1 == l'[0].1) = true := (Go.MapKept.bytes_beq _ _).2 rfl
          rw [hok'] at o3
          simp only [hml] at hln htk
          simp -implicitDefEqProofs [e5, e6, e7, c, hg, hg3, o3, hmn, hm1, hm2, w3, hbq, hml, hln, htk, cItm, itm_eql, hZ_app, hZ0_len, hZ0_g1, hZ0_g2, hZ0_gete, hZ0_set, vstore, cellsOf?, Ent.wrO, wr, haw]
end Go.Proofs.YtapkbkbjfekldaaF
end

section
/- HeavyStands, of all data. -/
namespace Go.Proofs.YtapkbkbjfekldaaF
open Go Go.Proofs.Vm
theorem lawHeavyStands_all : ∀ l, goodsHeavyStands l → TV.pu 4 l = some (cB true) := by
  rintro l ⟨a, r, rfl, ⟨x, rfl, hx⟩, b, r2, rfl, ⟨y, rfl, hy⟩, rfl⟩
  obtain ⟨n, rfl⟩ := int_good hx
  obtain ⟨l, rfl, hl⟩ := items_good hy
  exact law_stands n l hl
end Go.Proofs.YtapkbkbjfekldaaF
end

section
/- HeavyStands: the statement, from what the law's run comes to. -/
namespace Go.Proofs.Ytapkbkbjfekldaa.G
open Go Go.RowKit Go.ChangeShapes Go.WideShapes Go.ChangeAt Go.Proofs.Vm Go.Proofs.YtapkbkbjfekldaaF
theorem ownHeavyStands : ownKnob Try.prog.godebug = none := by kernel_rfl
theorem laidOutHeavyStands : laidOutB Try.prog = true := by kernel_rfl
set_option maxRecDepth 100000 in
set_option maxHeartbeats 2000000 in
theorem liftedHeavyStands (os : Os) (started : os.Started) (H : Type) (enc : TypeId × Value → H) :
    ReturnsInHanded {} Try.checked os 4 .any (Rows.heavyStandsSpec.pre6 enc Try.prog Try.f4 Rows.heavyStandsRow.domain false) (Rows.heavyStandsSpec.post enc Try.prog Try.f4 false true false false) := by
  refine returnsInHanded_of_change_sized (C := Try.checked) ownHeavyStands started (by kernel_rfl) Try.func4
    (ChangeSpec.witness6 (enc := enc) (C := Try.checked) false ⟨#[], #[.int .i64 0, .slice none 0 0], []⟩ 8 (by kernel_rfl) (by kernel_rfl) (by kernel_rfl) (by kernel_rfl)) ?_
  intro W base args ds gs before hval0 hW hcnd hsz0 _
  have hsz : (DataW.weightsEach Try.prog (Try.f4.params.toList ++ Rows.heavyStandsSpec.plain.varTypes Try.prog) (ds ++ gs)).all (· ≤ reachBytes) = true := hsz0
  have hval : ∀ (j : Nat) t v, Try.f4.params[j]? = some t → args[j]? = some v → Value.okWide Try.prog W .any base t v := hval0
  have hW' := hW
  obtain ⟨p, q, hA0, hV, rfl, hfz, hnd⟩ := hW
  have hA : DataW.TrodAll enc Try.prog W 0 (fun _ => true) true Try.f4.params.toList args.toList ds p := hA0
  rw [Try.params4] at hA hval hsz
  obtain ⟨rfl, rfl⟩ := trodVars_none hV
  have hdl := trodAll_len hA
  obtain ⟨d0, d1, rfl⟩ : ∃ d0 d1, ds = [d0, d1] := by match ds, hdl with | [d0, d1], _ => exact ⟨_, _, rfl⟩
  clear hA0 hval0 hsz0
  refine (lift_law tvOk.1 (ts := [3, 22]) laidOutHeavyStands (by kernel_rfl) opensHeavyStands lawHeavyStands_all hA (fun j t v h1 h2 => hval j t v (by simpa using h1) h2) (weights_of hsz)).mono fun e W' ⟨v, I', he, hR, hk, hb, hst⟩ => ?_
  obtain rfl : v = .bool true := by cases hR; rfl
  subst he
  exact ⟨_, rfl, _, _, _, [], _, [], hW', trodAll_mk1 (shut_bool Try.underlying4 _), hst, rfl, kept_of hk hb _, fun h => by cases h⟩
theorem heavyStands_holds : Rows.HeavyStandsSaid :=
  OpenClaim.holds_of_wide 4 Try.f4 rfl rfl rfl rfl rfl rfl rfl ⟨rfl, rfl, rfl, rfl, rfl⟩ rfl rfl rfl rfl rfl (by kernel_rfl) Try.func4 (by kernel_rfl)
    (of_decide_eq_true (by kernel_rfl)) (by unfold Func.isWrapper; first | (rw [if_pos (by decide +kernel)]; kernel_rfl) | (rw [if_neg (by decide +kernel)]; exact ⟨rfl, rfl⟩))
    (fun os started H enc _ => liftedHeavyStands os started H enc)
end Go.Proofs.Ytapkbkbjfekldaa.G
end
