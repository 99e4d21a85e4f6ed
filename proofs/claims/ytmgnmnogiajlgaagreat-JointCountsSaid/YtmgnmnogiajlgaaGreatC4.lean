/- Steps shared by the proofs of this seat's statements (part 4). -/
import Derived.Test.YtmgnmnogiajlgaaGreatC3
import Derived.Test.YtmgnmnogiajlgaaGreatC2
section
/- Equations brought into steps: what that tells of their solutions (no program here). -/
namespace Go.Proofs.Vm.Fld

def sumTo (f : Nat → Int) : Nat → Int
  | 0 => 0
  | n + 1 => sumTo f n + f n
theorem sumTo_front (f : Nat → Int) : ∀ n, sumTo f (n + 1) = f 0 + sumTo (fun j => f (j + 1)) n
  | 0 => by simp [sumTo]
  | n + 1 => by
    have := sumTo_front f n
    have e : sumTo f (n + 1 + 1) = sumTo f (n + 1) + f (n + 1) := rfl
    have e2 : sumTo (fun j => f (j + 1)) (n + 1) = sumTo (fun j => f (j + 1)) n + f (n + 1) := rfl
    omega
theorem sumTo_zero {f : Nat → Int} : ∀ {n}, (∀ j, j < n → f j = 0) → sumTo f n = 0
  | 0, _ => rfl
  | n + 1, h => by
    have := sumTo_zero (f := f) (n := n) fun j hj => h j (by omega)
    have e : sumTo f (n + 1) = sumTo f n + f n := rfl
    have := h n (by omega)
    omega
theorem sumTo_one {f : Nat → Int} {t : Nat} : ∀ {n}, t < n → (∀ j, j < n → j ≠ t → f j = 0) → sumTo f n = f t
  | 0, h, _ => by omega
  | n + 1, ht, h => by
    have e : sumTo f (n + 1) = sumTo f n + f n := rfl
    by_cases c : t = n
    · subst c
      have := sumTo_zero (f := f) (n := t) fun j hj => h j (by omega) (by omega)
      omega
    · have := sumTo_one (f := f) (n := n) (t := t) (by omega) fun j hj hjt => h j (by omega) hjt
      have := h n (by omega) (fun e => c e.symm)
      omega
theorem sumTo_two {f : Nat → Int} {t u : Nat} (htu : t ≠ u) : ∀ {n}, t < n → u < n → (∀ j, j < n → j ≠ t → j ≠ u → f j = 0) → sumTo f n = f t + f u
  | 0, h, _, _ => by omega
  | n + 1, ht, hu, h => by
    have e : sumTo f (n + 1) = sumTo f n + f n := rfl
    by_cases c : t = n
    · have := sumTo_one (f := f) (n := n) (t := u) (by omega) fun j hj hju => h j (by omega) (by omega) hju
      rw [e, this, c]; omega
    · by_cases c2 : u = n
      · have := sumTo_one (f := f) (n := n) (t := t) (by omega) fun j hj hjt => h j (by omega) hjt (by omega)
        rw [e, this, c2]
      · have := sumTo_two (f := f) (n := n) htu (by omega) (by omega) fun j hj h1 h2 => h j (by omega) h1 h2
        have := h n (by omega) (fun e => c e.symm) (fun e => c2 e.symm)
        omega
theorem at0_nil (j : Nat) : at0 [] j = 0 := by simp [at0]
theorem at0_zero (a : Int) (r : List Int) : at0 (a :: r) 0 = a := rfl
theorem at0_succ (a : Int) (r : List Int) (j : Nat) : at0 (a :: r) (j + 1) = at0 r j := rfl
theorem dot_sum : ∀ (n : Nat) (r y : List Int), r.length ≤ n → dot r y = sumTo (fun j => at0 r j * at0 y j) n
  | n, [], y, _ => by rw [dot_nil, sumTo_zero]; intro j _; rw [at0_nil, Int.zero_mul]
  | n, a :: r, [], _ => by rw [dot_nil', sumTo_zero]; intro j _; rw [at0_nil, Int.mul_zero]
  | 0, a :: r, y, h => by simp at h
  | n + 1, a :: r, b :: y, h => by
    rw [sumTo_front]
    show a * b + dot r y = _
    rw [dot_sum n r y (by simpa using h)]
    rfl
theorem at0_app {x : List Int} {n : Nat} (h : x.length = n) (s : Int) (j : Nat) : at0 (x ++ [s]) j = if j < n then at0 x j else if j = n then s else 0 := by
  unfold at0
  simp only [List.getD_eq_getElem?_getD]
  by_cases h1 : j < n
  · rw [if_pos h1, List.getElem?_append_left (by omega)]
  · rw [if_neg h1, List.getElem?_append_right (by omega)]
    by_cases h2 : j = n
    · rw [if_pos h2, h2, h, Nat.sub_self]; rfl
    · rw [if_neg h2, List.getElem?_eq_none (by simp; omega)]; rfl
theorem dot_app {r x : List Int} {n : Nat} (hr : r.length = n + 1) (hx : x.length = n) (s : Int) : dot r (x ++ [s]) = sumTo (fun j => at0 r j * at0 x j) n + at0 r n * s := by
  rw [dot_sum (n + 1) r _ (by omega)]
  have e : ∀ f : Nat → Int, sumTo f (n + 1) = sumTo f n + f n := fun f => rfl
  rw [e]
  congr 1
  · have : ∀ m, m ≤ n → sumTo (fun j => at0 r j * at0 (x ++ [s]) j) m = sumTo (fun j => at0 r j * at0 x j) m := fun m => by
      induction m with
      | zero => intro _; rfl
      | succ m ih =>
        intro hm
        show sumTo _ m + _ = sumTo _ m + _
        rw [ih (by omega)]
        show _ + at0 r m * at0 (x ++ [s]) m = _ + at0 r m * at0 x m
        rw [at0_app hx, if_pos (by omega)]
    exact this n (Nat.le_refl _)
  · rw [at0_app hx, if_neg (by omega), if_pos rfl]
/-- What has been brought into steps, up to the column c. -/
structure Ech (p : Int) (m : List (List Int)) (w c : Nat) (a : List Nat) : Prop where
  len : ∀ r ∈ m, r.length = w
  red : ∀ r, r < m.length → ∀ j, 0 ≤ at0 (row m r) j ∧ at0 (row m r) j < p
  le : a.length ≤ m.length
  lt : ∀ x ∈ a, x < c
  inc : a.Pairwise (· < ·)
  one : ∀ i (h : i < a.length) r, r < m.length → at0 (row m r) a[i] = if r = i then 1 else 0
  zero : ∀ r, a.length ≤ r → r < m.length → ∀ j, j < c → at0 (row m r) j = 0
def pvt (m : List (List Int)) (c k : Nat) : Option Nat := (List.range' k (m.length - k)).find? fun q => decide (at0 (row m q) c ≠ 0)
theorem pvt_some {m : List (List Int)} {c k q : Nat} (h : pvt m c k = some q) : k ≤ q ∧ q < m.length ∧ at0 (row m q) c ≠ 0 := by
  have h1 := List.mem_of_find?_eq_some h
  have h2 := List.find?_some h
  simp only [List.mem_range'_1] at h1
  simp only [decide_eq_true_eq] at h2
  exact ⟨h1.1, by omega, h2⟩
theorem pvt_none {m : List (List Int)} {c k q : Nat} (h : pvt m c k = none) (h1 : k ≤ q) (h2 : q < m.length) : at0 (row m q) c = 0 := by
  have := List.find?_eq_none.1 h q (by simp only [List.mem_range'_1]; omega)
  simpa using this
def clrS (p : Int) (inv : Int → Int) (st : List (List Int) × List Nat) (c : Nat) : List (List Int) × List Nat := match pvt st.1 c st.2.length with
  | some q => (stp p inv st.1 st.2.length q c, st.2 ++ [c])
  | none => st
theorem Ech.start {p : Int} {m : List (List Int)} {w : Nat} (h1 : ∀ r ∈ m, r.length = w) (h2 : ∀ r, r < m.length → ∀ j, 0 ≤ at0 (row m r) j ∧ at0 (row m r) j < p) : Ech p m w 0 [] :=
  ⟨h1, h2, by simp, by simp, List.Pairwise.nil, fun i h => by simp at h, fun r _ _ j h => by omega⟩
theorem Ech.pass {p : Int} {m : List (List Int)} {w c : Nat} {a : List Nat} (h : Ech p m w c a) (hn : pvt m c a.length = none) : Ech p m w (c + 1) a :=
  ⟨h.len, h.red, h.le, fun x hx => by have := h.lt x hx; omega, h.inc, h.one, fun r h1 h2 j hj => by
    by_cases e : j = c
    · rw [e]; exact pvt_none hn h1 h2
    · exact h.zero r h1 h2 j (by omega)⟩
theorem emod_red {p : Int} (hp : 1 < p) (a : Int) : 0 ≤ a % p ∧ a % p < p := ⟨Int.emod_nonneg _ (by omega), Int.emod_lt_of_pos _ (by omega)⟩
theorem Ech.step {p : Int} {inv : Int → Int} (hI : Inv p inv) {m : List (List Int)} {w c : Nat} {a : List Nat} (h : Ech p m w c a) {q : Nat} (hq : pvt m c a.length = some q) : Ech p (stp p inv m a.length q c) w (c + 1) (a ++ [c]) ∧ ∀ y, Ann p (stp p inv m a.length q c) y ↔ Ann p m y := by
  obtain ⟨q1, q2, q3⟩ := pvt_some hq
  obtain ⟨k, hk⟩ : ∃ k, a.length = k := ⟨_, rfl⟩
  rw [hk] at q1 ⊢
  have hkm : k < m.length := by omega
  have hp := hI.1
  have r0 := h.red q q2 c
  refine ⟨?_, fun y => stp_ann hI hkm q2 h.len r0.1 r0.2 q3 y⟩
  have hbl : (bas p inv m k q c).length = w := by rw [bas, scl_len]; exact h.len _ (row_mem q2)
  have hsw : ∀ r, row (swp m k q) r = if r = q then row m k else if r = k then row m q else row m r := swp_row hkm q2
  have hsm : ∀ r, r < m.length → ∃ t, t < m.length ∧ row (swp m k q) r = row m t ∧ (r < k → t = r) ∧ (k ≤ r → k ≤ t) := fun r hr => by
    rw [hsw]
    by_cases e1 : r = q
    · rw [if_pos e1]; exact ⟨k, hkm, rfl, fun h => by omega, fun _ => by omega⟩
    · by_cases e2 : r = k
      · rw [if_neg e1, if_pos e2]; exact ⟨q, q2, rfl, fun h => by omega, fun _ => by omega⟩
      · rw [if_neg e1, if_neg e2]; exact ⟨r, hr, rfl, fun _ => rfl, fun h => h⟩
  have hsl : ∀ r, r < m.length → (row (swp m k q) r).length = w := fun r hr => by
    obtain ⟨t, ht, e, _⟩ := hsm r hr
    rw [e]; exact h.len _ (row_mem ht)
  have hrow : ∀ r, r < m.length → row (stp p inv m k q c) r = if r = k then bas p inv m k q c else elm p (at0 (row (swp m k q) r) c) (bas p inv m k q c) (row (swp m k q) r) := fun r hr => elims_row (by rw [swp_len]; exact hr)
  have hba : ∀ j, at0 (bas p inv m k q c) j = at0 (row m q) j * inv (at0 (row m q) c) % p := fun j => scl_at ..
  have hbc : at0 (bas p inv m k q c) c = 1 := by rw [hba]; exact hI.2 _ r0.1 r0.2 q3
  have hb0 : ∀ j, at0 (row m q) j = 0 → at0 (bas p inv m k q c) j = 0 := fun j hj => by rw [hba, hj, Int.zero_mul, Int.zero_emod]
  have helm : ∀ r, r < m.length → r ≠ k → ∀ j, at0 (row (stp p inv m k q c) r) j = (at0 (row (swp m k q) r) j - at0 (row (swp m k q) r) c * at0 (bas p inv m k q c) j % p) % p := fun r hr hrk j => by
    rw [hrow r hr, if_neg hrk, elm_at p _ (by rw [hsl r hr, hbl])]
  refine ⟨fun r hr => ?_, fun r hr j => ?_, ?_, fun x hx => ?_, ?_, fun i hi r hr => ?_, fun r h1 hr j hj => ?_⟩
  · obtain ⟨t, ht, rfl⟩ := mem_row hr
    rw [stp_len] at ht
    rw [hrow t ht]
    by_cases e : t = k
    · rw [if_pos e]; exact hbl
    · rw [if_neg e, elm_len p _ (by rw [hsl t ht, hbl])]; exact hsl t ht
  · rw [stp_len] at hr
    by_cases e : r = k
    · rw [hrow r hr, if_pos e, hba]; exact emod_red hp _
    · rw [helm r hr e]; exact emod_red hp _
  · rw [stp_len, List.length_append, hk]; show k + 1 ≤ _; omega
  · rcases List.mem_append.1 hx with hx | hx
    · have := h.lt x hx; omega
    · rw [List.mem_singleton.1 hx]; omega
  · rw [List.pairwise_append]
    exact ⟨h.inc, List.pairwise_singleton _ _, fun x hx y hy => by rw [List.mem_singleton.1 hy]; exact h.lt x hx⟩
  · rw [stp_len] at hr
    rw [List.length_append, hk] at hi
    have hi : i < k + 1 := hi
    by_cases hik : i < k
    · have hia : (a ++ [c])[i]'(by simp; omega) = a[i]'(by omega) := List.getElem_append_left _
      rw [hia]
      have hqz : at0 (row m q) (a[i]'(by omega)) = 0 := by rw [h.one i (by omega) q q2, if_neg (by omega)]
      by_cases e : r = k
      · rw [hrow r hr, if_pos e, hb0 _ hqz, if_neg (by omega)]
      · rw [helm r hr e, hb0 _ hqz, Int.mul_zero, Int.zero_emod, Int.sub_zero]
        obtain ⟨t, ht, e1, e2, e3⟩ := hsm r hr
        rw [e1, h.one i (by omega) t ht]
        by_cases hri : r = i
        · have : t = i := by rw [e2 (by omega), hri]
          rw [if_pos this, if_pos hri]
          exact Int.emod_eq_of_lt (by omega) hp
        · have : t ≠ i := fun e' => by
            by_cases hrk : r < k
            · exact hri (by rw [← e2 hrk, e'])
            · have := e3 (by omega); omega
          rw [if_neg this, if_neg hri, Int.zero_emod]
    · have hie : i = k := by omega
      subst hie
      have hia : (a ++ [c])[i]'(by simp; omega) = c := by rw [List.getElem_append_right (by omega)]; simp [hk]
      rw [hia]
      by_cases e : r = i
      · rw [hrow r hr, if_pos e, hbc, if_pos e]
      · rw [helm r hr e, hbc, Int.mul_one, if_neg e]
        obtain ⟨t, ht, e1, _⟩ := hsm r hr
        rw [e1]
        have := h.red t ht c
        rw [Int.emod_eq_of_lt this.1 this.2, Int.sub_self, Int.zero_emod]
  · rw [stp_len] at hr
    rw [List.length_append, hk] at h1
    have h1 : k + 1 ≤ r := h1
    obtain ⟨t, ht, e1, _, e3⟩ := hsm r hr
    have h3 := e3 (by omega)
    rw [helm r hr (by omega), e1]
    by_cases e : j = c
    · subst e
      rw [hbc, Int.mul_one]
      have := h.red t ht j
      rw [Int.emod_eq_of_lt this.1 this.2, Int.sub_self, Int.zero_emod]
    · rw [hb0 j (h.zero q (by omega) q2 j (by omega)), Int.mul_zero, Int.zero_emod, Int.sub_zero, h.zero t (by omega) ht j (by omega), Int.zero_emod]
def clrTo (p : Int) (inv : Int → Int) (m : List (List Int)) (c : Nat) : List (List Int) × List Nat := (List.range c).foldl (clrS p inv) (m, [])
theorem clrTo_succ (p : Int) (inv : Int → Int) (m : List (List Int)) (c : Nat) : clrTo p inv m (c + 1) = clrS p inv (clrTo p inv m c) c := by
  unfold clrTo
  rw [List.range_succ, List.foldl_append]
  rfl
theorem clr_inv {p : Int} {inv : Int → Int} (hI : Inv p inv) {m : List (List Int)} {w : Nat} (h1 : ∀ r ∈ m, r.length = w) (h2 : ∀ r, r < m.length → ∀ j, 0 ≤ at0 (row m r) j ∧ at0 (row m r) j < p) : ∀ c, Ech p (clrTo p inv m c).1 w c (clrTo p inv m c).2 ∧ (∀ y, Ann p (clrTo p inv m c).1 y ↔ Ann p m y) ∧ (clrTo p inv m c).1.length = m.length
  | 0 => ⟨Ech.start h1 h2, fun _ => Iff.rfl, rfl⟩
  | c + 1 => by
    obtain ⟨g1, g2, g3⟩ := clr_inv hI h1 h2 c
    rw [clrTo_succ]
    unfold clrS
    cases hq : pvt (clrTo p inv m c).1 c (clrTo p inv m c).2.length with
    | none => exact ⟨g1.pass hq, g2, g3⟩
    | some q =>
      obtain ⟨e1, e2⟩ := g1.step hI hq
      exact ⟨e1, fun y => (e2 y).trans (g2 y), by rw [stp_len, g3]⟩
/-- Is there a row behind the steps with a number on the right? -/
def badR (st : List (List Int) × List Nat) (n : Nat) : Bool := (List.range' st.2.length (st.1.length - st.2.length)).any fun r => decide (at0 (row st.1 r) n ≠ 0)
theorem badR_iff {st : List (List Int) × List Nat} {n : Nat} : badR st n = true ↔ ∃ r, st.2.length ≤ r ∧ r < st.1.length ∧ at0 (row st.1 r) n ≠ 0 := by
  unfold badR
  rw [List.any_eq_true]
  constructor
  · rintro ⟨r, hr, h⟩
    simp only [List.mem_range'_1] at hr
    exact ⟨r, hr.1, by omega, of_decide_eq_true h⟩
  · rintro ⟨r, h1, h2, h3⟩
    exact ⟨r, by simp only [List.mem_range'_1]; omega, decide_eq_true h3⟩
def solF (p : Int) (inv : Int → Int) (m : List (List Int)) (n : Nat) : Int × List Int :=
  if badR (clrTo p inv m n) n = true then (6, []) else if (clrTo p inv m n).2.length < n then (7, []) else (0, (List.range n).map fun i => at0 (row (clrTo p inv m n).1 i) n)
/-- The equations in steps tell just this. -/
structure Told (p : Int) (m : List (List Int)) (n : Nat) (r : Int × List Int) : Prop where
  none : r.1 = 6 → ∀ x : List Int, x.length = n → ¬ Ann p m (x ++ [-1])
  more : r.1 = 7 → (∃ x : List Int, x.length = n ∧ Ann p m (x ++ [-1])) ∧ ∃ v : List Int, v.length = n ∧ Ann p m (v ++ [0]) ∧ ∃ j, j < n ∧ at0 v j = 1
  one : r.1 = 0 → r.2.length = n ∧ (∀ x ∈ r.2, 0 ≤ x ∧ x < p) ∧ Ann p m (r.2 ++ [-1]) ∧ ∀ x : List Int, ∀ s, x.length = n → Ann p m (x ++ [s]) → ∀ j, j < n → p ∣ at0 x j + s * at0 r.2 j
  cases : r.1 = 0 ∨ r.1 = 6 ∧ r.2 = [] ∨ r.1 = 7 ∧ r.2 = []
theorem inc_ge {a : List Nat} (h : a.Pairwise (· < ·)) : ∀ i (hi : i < a.length), i ≤ a[i]
  | 0, _ => Nat.zero_le _
  | i + 1, hi => by
    have h1 := inc_ge h i (by omega)
    have h2 := List.pairwise_iff_getElem.1 h i (i + 1) (by omega) hi (by omega)
    omega
theorem inc_le {a : List Nat} (h : a.Pairwise (· < ·)) {n : Nat} (hn : ∀ x ∈ a, x < n) : ∀ d i (hi : i < a.length), a.length = i + 1 + d → a[i] + d < n
  | 0, i, hi, _ => hn _ (List.getElem_mem hi)
  | d + 1, i, hi, hd => by
    have h1 := inc_le h hn d (i + 1) (by omega) (by omega)
    have h2 := List.pairwise_iff_getElem.1 h i (i + 1) hi (by omega) (by omega)
    omega
theorem at0_map {n : Nat} (g : Nat → Int) (j : Nat) : at0 ((List.range n).map g) j = if j < n then g j else 0 := by
  unfold at0
  rw [List.getD_eq_getElem?_getD, List.getElem?_map]
  by_cases h : j < n
  · rw [if_pos h, List.getElem?_range h]; rfl
  · rw [if_neg h, List.getElem?_eq_none (by simpa using h)]; rfl
theorem sol_told {p : Int} {inv : Int → Int} (hI : Inv p inv) {m : List (List Int)} {n : Nat} (h1 : ∀ r ∈ m, r.length = n + 1) (h2 : ∀ r, r < m.length → ∀ j, 0 ≤ at0 (row m r) j ∧ at0 (row m r) j < p) : Told p m n (solF p inv m n) := by
  obtain ⟨hE, hA, hL⟩ := clr_inv hI h1 h2 n
  have hp := hI.1
  unfold solF
  obtain ⟨st, hst⟩ : ∃ st, clrTo p inv m n = st := ⟨_, rfl⟩
  rw [hst] at hE hA hL ⊢
  obtain ⟨M, a⟩ := st
  dsimp only at hE hA hL ⊢
  have hlen : ∀ r, r < M.length → (row M r).length = n + 1 := fun r hr => hE.len _ (row_mem hr)
  by_cases hb : badR (M, a) n = true
  · rw [if_pos hb]
    refine ⟨fun _ x hx hx2 => ?_, (fun h => by cases h), (fun h => by cases h), .inr (.inl ⟨rfl, rfl⟩)⟩
    obtain ⟨r, k1, k2, k3⟩ := badR_iff.1 hb
    have hd := (hA _).2 hx2 _ (row_mem k2)
    rw [dot_app (hlen r k2) hx, sumTo_zero (fun j hj => by rw [hE.zero r k1 k2 j hj, Int.zero_mul])] at hd
    have hr := hE.red r k2 n
    have hd2 : p ∣ at0 (row M r) n := by
      obtain ⟨t, ht⟩ := hd
      exact ⟨-t, by rw [Int.mul_neg]; omega⟩
    have := Int.le_of_dvd (by dsimp only at k3; omega) hd2
    omega
  have hnb : ∀ r, a.length ≤ r → r < M.length → at0 (row M r) n = 0 := fun r k1 k2 => by
    by_cases e : at0 (row M r) n = 0
    · exact e
    · exact absurd (badR_iff.2 ⟨r, k1, k2, e⟩) hb
  have hzero : ∀ r, a.length ≤ r → r < M.length → ∀ (x : List Int) s, x.length = n → dot (row M r) (x ++ [s]) = 0 := fun r k1 k2 x s hx => by
    rw [dot_app (hlen r k2) hx, sumTo_zero (fun j hj => by rw [hE.zero r k1 k2 j hj, Int.zero_mul]), hnb r k1 k2, Int.zero_mul]
    rfl
  rw [if_neg hb]
  by_cases hc : a.length < n
  · rw [if_pos hc]
    have hnd : a.Nodup := hE.inc.imp fun h => by omega
    have hix : ∀ i (h : i < a.length), a.idxOf a[i] = i := fun i h => hnd.idxOf_getElem i h
    have hpos : ∀ {j}, j ∈ a → ∃ i, ∃ h : i < a.length, a[i] = j := fun hj => List.getElem_of_mem hj
    refine ⟨(fun h => by cases h), fun _ => ⟨?_, ?_⟩, (fun h => by cases h), .inr (.inr ⟨rfl, rfl⟩)⟩
    · refine ⟨(List.range n).map fun j => if j ∈ a then at0 (row M (a.idxOf j)) n else 0, by simp, (hA _).1 fun x hx => ?_⟩
      obtain ⟨r, hr, rfl⟩ := mem_row hx
      by_cases hra : r < a.length
      · rw [dot_app (hlen r hr) (by simp)]
        have har := hE.lt _ (List.getElem_mem hra)
        rw [sumTo_one (t := a[r]) har fun j hj hjt => ?_]
        · rw [at0_map, if_pos har, if_pos (List.getElem_mem hra), hix r hra, hE.one r hra r hr, if_pos rfl]
          exact ⟨0, by omega⟩
        · rw [at0_map, if_pos hj]
          by_cases hja : j ∈ a
          · obtain ⟨i, hi, rfl⟩ := hpos hja
            rw [hE.one i hi r hr, if_neg (fun e => hjt (by subst e; rfl)), Int.zero_mul]
          · rw [if_neg hja, Int.mul_zero]
      · rw [hzero r (by omega) hr _ _ (by simp)]; exact ⟨0, by simp⟩
    · obtain ⟨f, hf, hfa⟩ : ∃ f, f < n ∧ f ∉ a := by
        apply Classical.byContradiction
        intro hno
        have hall : ∀ j, j < n → j ∈ a := fun j hj => Classical.byContradiction fun hja => hno ⟨j, hj, hja⟩
        have := (perm_of_nodup (l := List.range n) (m := a) List.nodup_range (fun x hx => hall x (List.mem_range.1 hx)) (by rw [List.length_range]; omega)).length_eq
        rw [List.length_range] at this
        omega
      refine ⟨(List.range n).map fun j => if j = f then 1 else if j ∈ a then - at0 (row M (a.idxOf j)) f else 0, by simp, (hA _).1 fun x hx => ?_, f, hf, by rw [at0_map, if_pos hf, if_pos rfl]⟩
      obtain ⟨r, hr, rfl⟩ := mem_row hx
      by_cases hra : r < a.length
      · rw [dot_app (hlen r hr) (by simp)]
        have har := hE.lt _ (List.getElem_mem hra)
        have hne : a[r] ≠ f := fun e => hfa (e ▸ List.getElem_mem hra)
        rw [sumTo_two (t := a[r]) (u := f) hne har hf fun j hj hjt hjf => ?_]
        · rw [at0_map, if_pos har, if_neg hne, if_pos (List.getElem_mem hra), hix r hra, hE.one r hra r hr, if_pos rfl, at0_map, if_pos hf, if_pos rfl]
          exact ⟨0, by omega⟩
        · rw [at0_map, if_pos hj, if_neg hjf]
          by_cases hja : j ∈ a
          · obtain ⟨i, hi, rfl⟩ := hpos hja
            rw [hE.one i hi r hr, if_neg (fun e => hjt (by subst e; rfl)), Int.zero_mul]
          · rw [if_neg hja, Int.mul_zero]
      · rw [hzero r (by omega) hr _ _ (by simp)]; exact ⟨0, by simp⟩
  rw [if_neg hc]
  have hal : a.length = n := by
    have : a.length ≤ n := by
      by_cases h0 : a.length = 0
      · omega
      · have := inc_le hE.inc hE.lt (a.length - 1) 0 (by omega) (by omega)
        omega
    omega
  have hai : ∀ i (h : i < a.length), a[i] = i := fun i h => by
    have g1 := inc_ge hE.inc i h
    have g2 := inc_le hE.inc hE.lt (a.length - 1 - i) i h (by omega)
    omega
  have hone : ∀ i r, i < n → r < M.length → at0 (row M r) i = if r = i then 1 else 0 := fun i r hi hr => by
    have := hE.one i (by omega) r hr
    rw [hai i (by omega)] at this
    exact this
  have hle := hE.le
  have hdot : ∀ r, r < n → ∀ (x : List Int) s, x.length = n → dot (row M r) (x ++ [s]) = at0 x r + at0 (row M r) n * s := fun r hr x s hx => by
    rw [dot_app (hlen r (by omega)) hx, sumTo_one (t := r) hr fun j hj hjr => by rw [hone j r hj (by omega), if_neg (fun e => hjr e.symm), Int.zero_mul]]
    rw [hone r r hr (by omega), if_pos rfl, Int.one_mul]
  refine ⟨(fun h => by cases h), (fun h => by cases h), fun _ => ⟨by simp, fun x hx => ?_, (hA _).1 fun x hx => ?_, fun x s hx hx2 j hj => ?_⟩, .inl rfl⟩
  · obtain ⟨i, hi, rfl⟩ := List.mem_map.1 hx
    exact hE.red i (by have := List.mem_range.1 hi; omega) n
  · obtain ⟨r, hr, rfl⟩ := mem_row hx
    by_cases hra : r < n
    · rw [hdot r hra _ _ (by simp), at0_map, if_pos hra]
      exact ⟨0, by omega⟩
    · rw [hzero r (by omega) hr _ _ (by simp)]; exact ⟨0, by simp⟩
  · have := (hA _).2 hx2 _ (row_mem (show j < M.length by omega))
    rw [hdot j hj x s hx] at this
    rw [at0_map, if_pos hj, Int.mul_comm s]
    exact this
end Go.Proofs.Vm.Fld
end

section
/- Rank by definition: a base of rows, each without what those ahead of it have (no program here). -/
namespace Go.Proofs.Vm.Fld

/-- The place of the first number that is not 0; the length, if there is none. -/
def fst : List Int → Nat
  | [] => 0
  | a :: r => if a ≠ 0 then 0 else fst r + 1
theorem fst_le : ∀ r : List Int, fst r ≤ r.length
  | [] => Nat.le_refl _
  | a :: r => by
    unfold fst
    split
    · exact Nat.zero_le _
    · have := fst_le r; rw [List.length_cons]; omega
theorem fst_ne : ∀ {r : List Int}, fst r < r.length → at0 r (fst r) ≠ 0
  | [], h => by simp at h
  | a :: r, h => by
    unfold fst at h ⊢
    by_cases c : a ≠ 0
    · rw [if_pos c]; exact c
    · rw [if_neg c] at h ⊢
      rw [at0_succ]
      exact fst_ne (by rw [List.length_cons] at h; omega)
theorem fst_zero : ∀ {r : List Int} {j : Nat}, j < fst r → at0 r j = 0
  | [], j, h => by simp [fst] at h
  | a :: r, j, h => by
    unfold fst at h
    by_cases c : a ≠ 0
    · rw [if_pos c] at h; omega
    · rw [if_neg c] at h
      cases j with
      | zero => rw [at0_zero]; exact Classical.not_not.1 c
      | succ j => rw [at0_succ]; exact fst_zero (by omega)
theorem fst_unique {r : List Int} {k : Nat} (hk : k ≤ r.length) (h1 : ∀ j, j < k → at0 r j = 0) (h2 : k < r.length → at0 r k ≠ 0) : fst r = k := by
  rcases Nat.lt_trichotomy (fst r) k with h | h | h
  · exact absurd (h1 _ h) (fst_ne (by omega))
  · exact h
  · exact absurd (fst_zero h) (h2 (by have := fst_le r; omega))
variable (p : Int) (inv : Int → Int)
def lesS (out b : List Int) : List Int := elm p (at0 out (fst b) * inv (at0 b (fst b)) % p) b out
def lessF (r : List Int) (base : List (List Int)) : List Int := base.foldl (lesS p inv) r
def basS (base : List (List Int)) (r : List Int) : List (List Int) := if fst (lessF p inv r base) < (lessF p inv r base).length then base ++ [lessF p inv r base] else base
def baseF (rows : List (List Int)) : List (List Int) := rows.foldl (basS p inv) []
variable {p inv}
def Red (p : Int) (w : Nat) (r : List Int) : Prop := r.length = w ∧ ∀ j, 0 ≤ at0 r j ∧ at0 r j < p
/-- A base. -/
def Bas (p : Int) (w : Nat) : List (List Int) → Prop
  | [] => True
  | b :: l => Red p w b ∧ fst b < w ∧ (∀ x ∈ l, at0 x (fst b) = 0) ∧ Bas p w l
theorem Bas.mem : ∀ {l : List (List Int)} {w : Nat}, Bas p w l → ∀ b ∈ l, Red p w b ∧ fst b < w
  | [], _, _, b, h => by simp at h
  | b :: l, w, h, x, hx => by
    rcases List.mem_cons.1 hx with rfl | hx
    · exact ⟨h.1, h.2.1⟩
    · exact Bas.mem h.2.2.2 x hx
theorem Bas.snoc : ∀ {l : List (List Int)} {w : Nat} {x : List Int}, Bas p w l → Red p w x → fst x < w → (∀ b ∈ l, at0 x (fst b) = 0) → Bas p w (l ++ [x])
  | [], w, x, _, h1, h2, _ => ⟨h1, h2, by simp, trivial⟩
  | b :: l, w, x, h, h1, h2, h3 => ⟨h.1, h.2.1, fun y hy => by
    rcases List.mem_append.1 hy with hy | hy
    · exact h.2.2.1 y hy
    · rw [List.mem_singleton.1 hy]; exact h3 b List.mem_cons_self, Bas.snoc h.2.2.2 h1 h2 fun b hb => h3 b (List.mem_cons_of_mem _ hb)⟩
theorem lesS_red (hp : 1 < p) {w : Nat} {out b : List Int} (ho : Red p w out) (hb : Red p w b) : Red p w (lesS p inv out b) := by
  refine ⟨by rw [lesS, elm_len p _ (by rw [ho.1, hb.1])]; exact ho.1, fun j => ?_⟩
  rw [lesS, elm_at p _ (by rw [ho.1, hb.1])]
  exact emod_red hp _
theorem lesS_keep (_hp : 1 < p) {w : Nat} {out b : List Int} (ho : Red p w out) (hb : Red p w b) {j : Nat} (h1 : at0 b j = 0) : at0 (lesS p inv out b) j = at0 out j := by
  rw [lesS, elm_at p _ (by rw [ho.1, hb.1]), h1, Int.mul_zero, Int.zero_emod, Int.sub_zero]
  exact Int.emod_eq_of_lt (ho.2 j).1 (ho.2 j).2
theorem lesS_zero (hI : Inv p inv) {w : Nat} {out b : List Int} (ho : Red p w out) (hb : Red p w b) (hf : fst b < w) : at0 (lesS p inv out b) (fst b) = 0 := by
  rw [lesS, elm_at p _ (by rw [ho.1, hb.1])]
  obtain ⟨o, ho'⟩ : ∃ o, at0 out (fst b) = o := ⟨_, rfl⟩
  have hn : at0 b (fst b) ≠ 0 := fst_ne (by rw [hb.1]; exact hf)
  have hr := hb.2 (fst b)
  obtain ⟨v, hv⟩ : ∃ v, at0 b (fst b) = v := ⟨_, rfl⟩
  rw [hv] at hn hr
  rw [ho', hv]
  have h1 := hI.2 v hr.1 hr.2 hn
  have h2 : o * inv v % p * v % p = o % p := by
    rw [Int.mul_emod, Int.emod_emod, ← Int.mul_emod, Int.mul_assoc, Int.mul_comm (inv v), Int.mul_emod, h1, Int.mul_one, Int.emod_emod]
  rw [h2, Int.sub_emod, Int.emod_emod, Int.sub_self, Int.zero_emod]
theorem lesS_dot {w : Nat} {out b : List Int} (ho : Red p w out) (hb : Red p w b) {y : List Int} (hy : p ∣ dot b y) : p ∣ dot (lesS p inv out b) y ↔ p ∣ dot out y := by
  obtain ⟨t, ht⟩ := dot_elm p (at0 out (fst b) * inv (at0 b (fst b)) % p) b out y (by rw [ho.1, hb.1])
  obtain ⟨s, hs⟩ := hy
  unfold lesS
  obtain ⟨f, hf⟩ : ∃ f, at0 out (fst b) * inv (at0 b (fst b)) % p = f := ⟨_, rfl⟩
  rw [hf] at ht ⊢
  rw [hs, Int.mul_left_comm] at ht
  constructor
  · rintro ⟨u, hu⟩
    exact ⟨u - t + f * s, by rw [Int.mul_add, Int.mul_sub]; omega⟩
  · rintro ⟨u, hu⟩
    exact ⟨t + u - f * s, by rw [Int.mul_sub, Int.mul_add]; omega⟩
theorem lessF_facts (hI : Inv p inv) {w : Nat} : ∀ {base : List (List Int)} {r : List Int}, Bas p w base → Red p w r →
    Red p w (lessF p inv r base) ∧ (∀ b ∈ base, at0 (lessF p inv r base) (fst b) = 0) ∧ (∀ j, (∀ b ∈ base, at0 b j = 0) → at0 (lessF p inv r base) j = at0 r j) ∧ ∀ y, Ann p base y → (p ∣ dot (lessF p inv r base) y ↔ p ∣ dot r y)
  | [], r, _, hr => ⟨hr, by simp, fun _ _ => rfl, fun _ _ => Iff.rfl⟩
  | b :: l, r, hB, hr => by
    obtain ⟨b1, b2, b3, b4⟩ := hB
    obtain ⟨g1, g2, g3, g4⟩ := lessF_facts hI (base := l) (r := lesS p inv r b) b4 (lesS_red hI.1 hr b1)
    refine ⟨g1, fun x hx => ?_, fun j hj => ?_, fun y hy => ?_⟩
    · rcases List.mem_cons.1 hx with rfl | hx
      · show at0 (lessF p inv (lesS p inv r x) l) _ = 0
        rw [g3 _ b3]
        exact lesS_zero hI hr b1 b2
      · exact g2 x hx
    · show at0 (lessF p inv (lesS p inv r b) l) _ = _
      rw [g3 j fun x hx => hj x (List.mem_cons_of_mem _ hx)]
      exact lesS_keep hI.1 hr b1 (hj b List.mem_cons_self)
    · exact (g4 y fun x hx => hy x (List.mem_cons_of_mem _ hx)).trans (lesS_dot hr b1 (hy b List.mem_cons_self))
theorem ann_snoc {m : List (List Int)} {x y : List Int} : Ann p (m ++ [x]) y ↔ Ann p m y ∧ p ∣ dot x y := by
  unfold Ann
  simp only [List.mem_append, List.mem_singleton]
  constructor
  · intro h; exact ⟨fun r hr => h r (.inl hr), h x (.inr rfl)⟩
  · rintro ⟨h1, h2⟩ r (hr | rfl)
    · exact h1 r hr
    · exact h2
theorem zero_of_fst {r : List Int} (h : ¬ fst r < r.length) (j : Nat) : at0 r j = 0 := by
  by_cases c : j < r.length
  · exact fst_zero (by omega)
  · unfold at0; rw [List.getD_eq_getElem?_getD, List.getElem?_eq_none (by omega)]; rfl
theorem dot_zero {r : List Int} (h : ∀ j, at0 r j = 0) (y : List Int) : dot r y = 0 := by
  rw [dot_sum r.length r y (Nat.le_refl _)]
  exact sumTo_zero fun j _ => by rw [h j, Int.zero_mul]
theorem baseF_facts (hI : Inv p inv) {w : Nat} : ∀ {rows : List (List Int)} {base : List (List Int)}, Bas p w base → (∀ r ∈ rows, Red p w r) → Bas p w (rows.foldl (basS p inv) base) ∧ ∀ y, Ann p (rows.foldl (basS p inv) base) y ↔ Ann p base y ∧ Ann p rows y
  | [], base, hB, _ => ⟨hB, fun y => by simp [Ann]⟩
  | r :: rows, base, hB, hr => by
    obtain ⟨g1, g2, g3, g4⟩ := lessF_facts hI hB (hr r List.mem_cons_self)
    have hB' : Bas p w (basS p inv base r) := by
      unfold basS
      by_cases c : fst (lessF p inv r base) < (lessF p inv r base).length
      · rw [if_pos c]; exact hB.snoc g1 (by rw [← g1.1]; exact c) g2
      · rw [if_neg c]; exact hB
    obtain ⟨k1, k2⟩ := baseF_facts hI (rows := rows) hB' fun x hx => hr x (List.mem_cons_of_mem _ hx)
    refine ⟨k1, fun y => (k2 y).trans ?_⟩
    have hA : Ann p (basS p inv base r) y ↔ Ann p base y ∧ p ∣ dot r y := by
      unfold basS
      by_cases c : fst (lessF p inv r base) < (lessF p inv r base).length
      · rw [if_pos c, ann_snoc]
        exact ⟨fun h => ⟨h.1, (g4 y h.1).1 h.2⟩, fun h => ⟨h.1, (g4 y h.1).2 h.2⟩⟩
      · rw [if_neg c]
        refine ⟨fun h => ⟨h, (g4 y h).1 ?_⟩, fun h => h.1⟩
        rw [dot_zero (zero_of_fst c)]
        exact ⟨0, by simp⟩
    rw [hA]
    constructor
    · rintro ⟨⟨h1, h2⟩, h3⟩
      exact ⟨h1, fun x hx => by rcases List.mem_cons.1 hx with rfl | hx; · exact h2
                                exact h3 x hx⟩
    · rintro ⟨h1, h2⟩
      exact ⟨⟨h1, h2 r List.mem_cons_self⟩, fun x hx => h2 x (List.mem_cons_of_mem _ hx)⟩
theorem base_facts (hI : Inv p inv) {w : Nat} {rows : List (List Int)} (h : ∀ r ∈ rows, Red p w r) : Bas p w (baseF p inv rows) ∧ ∀ y, Ann p (baseF p inv rows) y ↔ Ann p rows y := by
  obtain ⟨g1, g2⟩ := baseF_facts hI (w := w) (rows := rows) (base := []) trivial h
  exact ⟨g1, fun y => (g2 y).trans ⟨fun h => h.2, fun h => ⟨fun r hr => by simp at hr, h⟩⟩⟩
theorem at0_set {x : List Int} {k : Nat} {t : Int} (hk : k < x.length) (j : Nat) : at0 (x.set k t) j = if j = k then t else at0 x j := by
  unfold at0
  simp only [List.getD_eq_getElem?_getD, List.getElem?_set]
  by_cases h : k = j
  · subst h; simp [hk]
  · have h' : ¬ j = k := fun e => h e.symm
    simp [h, h']
theorem sumTo_congr {f g : Nat → Int} : ∀ {n}, (∀ j, j < n → f j = g j) → sumTo f n = sumTo g n
  | 0, _ => rfl
  | n + 1, h => by
    show sumTo f n + f n = sumTo g n + g n
    rw [sumTo_congr fun j hj => h j (by omega), h n (by omega)]
theorem sumTo_add (f g : Nat → Int) : ∀ n, sumTo (fun j => f j + g j) n = sumTo f n + sumTo g n
  | 0 => rfl
  | n + 1 => by
    have := sumTo_add f g n
    show sumTo _ n + (f n + g n) = sumTo f n + f n + (sumTo g n + g n)
    omega
theorem dot_set {r x : List Int} {w k : Nat} (hr : r.length = w) (hx : x.length = w) (hk : k < w) (t : Int) : dot r (x.set k t) = dot r x + at0 r k * (t - at0 x k) := by
  rw [dot_sum w r _ (by omega), dot_sum w r x (by omega)]
  have h1 : sumTo (fun j => at0 r j * at0 (x.set k t) j) w = sumTo (fun j => at0 r j * at0 x j + (if j = k then at0 r k * (t - at0 x k) else 0)) w := sumTo_congr fun j hj => by
    rw [at0_set (by omega)]
    by_cases e : j = k
    · rw [if_pos e, if_pos e, e, Int.mul_sub]; omega
    · rw [if_neg e, if_neg e, Int.add_zero]
  have h2 : sumTo (fun j => if j = k then at0 r k * (t - at0 x k) else 0) w = at0 r k * (t - at0 x k) := by
    rw [sumTo_one (t := k) hk fun j hj hjk => by rw [if_neg hjk], if_pos rfl]
  rw [h1, sumTo_add, h2]
/-- Whatever the numbers off the firsts are, those at the firsts can be chosen. -/
theorem bas_solve (hI : Inv p inv) {w : Nat} : ∀ {l : List (List Int)}, Bas p w l → ∀ x0 : List Int, x0.length = w → ∃ x : List Int, x.length = w ∧ Ann p l x ∧ ∀ j, (∀ b ∈ l, fst b ≠ j) → at0 x j = at0 x0 j
  | [], _, x0, h0 => ⟨x0, h0, fun r hr => by simp at hr, fun _ _ => rfl⟩
  | b :: l, hB, x0, h0 => by
    obtain ⟨b1, b2, b3, b4⟩ := hB
    obtain ⟨x, g1, g2, g3⟩ := bas_solve hI b4 x0 h0
    have hn : at0 b (fst b) ≠ 0 := fst_ne (by rw [b1.1]; exact b2)
    have hr := b1.2 (fst b)
    have h1 := hI.2 _ hr.1 hr.2 hn
    obtain ⟨v, hv⟩ : ∃ v, at0 b (fst b) = v := ⟨_, rfl⟩
    obtain ⟨d, hd⟩ : ∃ d, dot b x = d := ⟨_, rfl⟩
    refine ⟨x.set (fst b) (at0 x (fst b) - d * inv v), by simp [g1], fun r hr => ?_, fun j hj => ?_⟩
    · rcases List.mem_cons.1 hr with rfl | hr
      · rw [dot_set b1.1 g1 b2, hv, hd]
        rw [hv] at h1
        have ht : v * inv v = p * (v * inv v / p) + 1 := by have := Int.emod_add_mul_ediv (v * inv v) p; omega
        obtain ⟨q, hq⟩ : ∃ q, v * inv v / p = q := ⟨_, rfl⟩
        rw [hq] at ht
        refine ⟨-(d * q), ?_⟩
        have e : v * (at0 x (fst r) - d * inv v - at0 x (fst r)) = -(d * (v * inv v)) := by
          rw [show at0 x (fst r) - d * inv v - at0 x (fst r) = -(d * inv v) by omega, Int.mul_neg, Int.mul_left_comm]
        rw [e, ht, Int.mul_add, Int.mul_one, Int.mul_neg, Int.mul_left_comm]
        omega
      · rw [dot_set (b4.mem r hr).1.1 g1 b2, b3 r hr, Int.zero_mul, Int.add_zero]
        exact g2 r hr
    · rw [at0_set (by rw [g1]; exact b2), if_neg fun e => hj b List.mem_cons_self e.symm]
      exact g3 j fun x hx => hj x (List.mem_cons_of_mem _ hx)
theorem dvd_sum {f : Nat → Int} : ∀ {n}, (∀ j, j < n → p ∣ f j) → p ∣ sumTo f n
  | 0, _ => ⟨0, by simp [sumTo]⟩
  | n + 1, h => Int.dvd_add (dvd_sum fun j hj => h j (by omega)) (h n (by omega))
/-- What all rows of a base tell nothing of, and is 0 off the firsts, is 0. -/
theorem bas_zero (hI : Inv p inv) {w : Nat} : ∀ {l : List (List Int)}, Bas p w l → ∀ x : List Int, x.length = w → Ann p l x → (∀ j, j < w → (∀ b ∈ l, fst b ≠ j) → p ∣ at0 x j) → ∀ j, j < w → p ∣ at0 x j
  | [], _, x, _, _, h, j, hj => h j hj (by simp)
  | b :: l, hB, x, hx, hA, h, j, hj => by
    obtain ⟨b1, b2, b3, b4⟩ := hB
    have hA' : Ann p l (x.set (fst b) 0) := fun r hr => by
      rw [dot_set (b4.mem r hr).1.1 hx b2, b3 r hr, Int.zero_mul, Int.add_zero]
      exact hA r (List.mem_cons_of_mem _ hr)
    have key := bas_zero hI b4 (x.set (fst b) 0) (by simp [hx]) hA' fun i hi hni => by
      rw [at0_set (by rw [hx]; exact b2)]
      by_cases e : i = fst b
      · rw [if_pos e]; exact ⟨0, by simp⟩
      · rw [if_neg e]
        refine h i hi fun c hc => ?_
        rcases List.mem_cons.1 hc with rfl | hc
        · exact fun e' => e e'.symm
        · exact hni c hc
    by_cases e : j = fst b
    · have h0 := hA b List.mem_cons_self
      have hs := dot_set b1.1 hx b2 0
      have hz : p ∣ dot b (x.set (fst b) 0) := by
        rw [dot_sum w b _ (by rw [b1.1]; exact Nat.le_refl _)]
        exact dvd_sum fun i hi => Int.dvd_mul_of_dvd_right (key i hi)
      have hm : p ∣ at0 b (fst b) * at0 x (fst b) := by
        rw [Int.zero_sub, Int.mul_neg] at hs
        have : at0 b (fst b) * at0 x (fst b) = dot b x - dot b (x.set (fst b) 0) := by omega
        rw [this]
        exact Int.dvd_sub h0 hz
      have hn : at0 b (fst b) ≠ 0 := fst_ne (by rw [b1.1]; exact b2)
      have hr := b1.2 (fst b)
      have h1 := hI.2 _ hr.1 hr.2 hn
      rw [e]
      rw [Int.mul_comm] at h1
      refine (dvd_scale (v := inv (at0 b (fst b))) (u := at0 b (fst b)) h1 hI.1 (d := at0 x (fst b)) (e := at0 b (fst b) * at0 x (fst b)) ⟨0, by omega⟩).1 hm
    · have := key j hj
      rw [at0_set (by rw [hx]; exact b2), if_neg e] at this
      exact this
theorem bas_nodup {w : Nat} : ∀ {l : List (List Int)}, Bas p w l → (l.map fst).Nodup
  | [], _ => List.nodup_nil
  | b :: l, h => by
    rw [List.map_cons, List.nodup_cons]
    refine ⟨fun hm => ?_, bas_nodup h.2.2.2⟩
    obtain ⟨x, hx, e⟩ := List.mem_map.1 hm
    have h1 := h.2.2.2.mem x hx
    have h2 := h.2.2.1 x hx
    rw [← e] at h2
    exact fst_ne (by rw [h1.1.1]; exact h1.2) h2
theorem bas_len {w : Nat} {l : List (List Int)} (h : Bas p w l) : l.length ≤ w ∧ (l.length < w → ∃ f, f < w ∧ ∀ b ∈ l, fst b ≠ f) := by
  have hn := bas_nodup h
  have hlt : ∀ x ∈ l.map fst, x < w := fun x hx => by obtain ⟨b, hb, rfl⟩ := List.mem_map.1 hx; exact (h.mem b hb).2
  constructor
  · apply Classical.byContradiction
    intro hc
    have := (perm_of_nodup (l := l.map fst) (m := List.range w) hn (fun x hx => List.mem_range.2 (hlt x hx)) (by rw [List.length_map, List.length_range]; omega)).length_eq
    rw [List.length_map, List.length_range] at this
    omega
  · intro hl
    apply Classical.byContradiction
    intro hno
    have hall : ∀ f, f < w → f ∈ l.map fst := fun f hf => Classical.byContradiction fun hm => hno ⟨f, hf, fun b hb e => hm (List.mem_map.2 ⟨b, hb, e⟩)⟩
    have := (perm_of_nodup (l := List.range w) (m := l.map fst) List.nodup_range (fun x hx => hall x (List.mem_range.1 hx)) (by rw [List.length_map, List.length_range]; omega)).length_eq
    rw [List.length_map, List.length_range] at this
    omega
end Go.Proofs.Vm.Fld
end

section
/- Ranks tell whether equations have one solution (no program here). -/
namespace Go.Proofs.Vm.Fld
variable {p : Int} {inv : Int → Int}

theorem ext_at0 {a b : List Int} (h : a.length = b.length) (h2 : ∀ j, j < a.length → at0 a j = at0 b j) : a = b := by
  apply List.ext_getElem h
  intro j h3 h4
  have := h2 j h3
  unfold at0 at this
  rw [List.getD_eq_getElem?_getD, List.getD_eq_getElem?_getD, List.getElem?_eq_getElem h3, List.getElem?_eq_getElem h4] at this
  exact this
theorem at0_take (r : List Int) (n j : Nat) : at0 (r.take n) j = if j < n then at0 r j else 0 := by
  unfold at0
  simp only [List.getD_eq_getElem?_getD, List.getElem?_take]
  by_cases h : j < n
  · rw [if_pos h, if_pos h]
  · rw [if_neg h, if_neg h]; rfl
theorem fst_take {r : List Int} {n : Nat} (h : n ≤ r.length) : fst (r.take n) = if fst r < n then fst r else n := by
  by_cases c : fst r < n
  · rw [if_pos c]
    refine fst_unique (by rw [List.length_take]; omega) (fun j hj => ?_) (fun _ => ?_)
    · rw [at0_take, if_pos (by omega)]; exact fst_zero hj
    · rw [at0_take, if_pos c]; exact fst_ne (by omega)
  · rw [if_neg c]
    refine fst_unique (by rw [List.length_take]; omega) (fun j hj => ?_) (fun h2 => ?_)
    · rw [at0_take, if_pos hj]; exact fst_zero (by omega)
    · rw [List.length_take] at h2; omega
theorem red_take {n : Nat} {r : List Int} (hp : 1 < p) (h : Red p (n + 1) r) : Red p n (r.take n) := by
  refine ⟨by rw [List.length_take, h.1]; omega, fun j => ?_⟩
  rw [at0_take]
  split
  · exact h.2 j
  · omega
def prj (n : Nat) (bw : List (List Int)) : List (List Int) := (bw.filter fun b => decide (fst b < n)).map (·.take n)
theorem lesS_take (hp : 1 < p) {n : Nat} {out b : List Int} (ho : Red p (n + 1) out) (hb : Red p (n + 1) b) : (lesS p inv out b).take n = if fst b < n then lesS p inv (out.take n) (b.take n) else out.take n := by
  have hol := ho.1
  have hbl := hb.1
  by_cases c : fst b < n
  · rw [if_pos c]
    unfold lesS
    rw [fst_take (by omega), if_pos c, at0_take, if_pos c, at0_take, if_pos c]
    exact List.take_zipWith
  · rw [if_neg c]
    refine ext_at0 (by rw [List.length_take, List.length_take, (lesS_red hp ho hb).1, hol]) fun j hj => ?_
    rw [List.length_take] at hj
    rw [at0_take, at0_take, if_pos (by omega), if_pos (by omega)]
    exact lesS_keep hp ho hb (fst_zero (by omega))
theorem lessF_take (hp : 1 < p) {n : Nat} : ∀ {bw : List (List Int)} {r : List Int}, (∀ b ∈ bw, Red p (n + 1) b) → Red p (n + 1) r → (lessF p inv r bw).take n = lessF p inv (r.take n) (prj n bw)
  | [], _, _, _ => rfl
  | b :: bw, r, hb, hr => by
    have h1 := hb b List.mem_cons_self
    have ih := lessF_take hp (bw := bw) (r := lesS p inv r b) (fun x hx => hb x (List.mem_cons_of_mem _ hx)) (lesS_red hp hr h1)
    show (lessF p inv (lesS p inv r b) bw).take n = _
    rw [ih, lesS_take hp hr h1]
    unfold prj
    rw [List.filter_cons]
    by_cases c : fst b < n
    · rw [if_pos c, if_pos (decide_eq_true c)]; rfl
    · rw [if_neg c, if_neg (by simpa using c)]
def high (n : Nat) (bw : List (List Int)) : Nat := bw.countP fun b => !decide (fst b < n)
theorem prj_len (n : Nat) : ∀ bw : List (List Int), bw.length = (prj n bw).length + high n bw
  | [] => rfl
  | b :: bw => by
    have ih := prj_len n bw
    unfold prj high at *
    rw [List.filter_cons, List.countP_cons]
    by_cases c : fst b < n
    · rw [if_pos (decide_eq_true c), List.map_cons, List.length_cons, List.length_cons, decide_eq_true c]
      simp
      simp at ih
      omega
    · rw [if_neg (by simpa using c), List.length_cons, decide_eq_false c]
      simp
      simp at ih
      omega
theorem prj_snoc (n : Nat) (bw : List (List Int)) (x : List Int) : prj n (bw ++ [x]) = if fst x < n then prj n bw ++ [x.take n] else prj n bw := by
  unfold prj
  rw [List.filter_append, List.map_append]
  by_cases c : fst x < n
  · rw [if_pos c]; simp [c]
  · rw [if_neg c]; simp [c]
theorem high_snoc (n : Nat) (bw : List (List Int)) (x : List Int) : high n (bw ++ [x]) = high n bw + if fst x < n then 0 else 1 := by
  unfold high
  rw [List.countP_append]
  by_cases c : fst x < n <;> simp [c]
theorem bas_par (hI : Inv p inv) {n : Nat} : ∀ {rows : List (List Int)} {bw : List (List Int)}, (∀ r ∈ rows, Red p (n + 1) r) → Bas p (n + 1) bw → high n bw ≤ 1 → prj n (rows.foldl (basS p inv) bw) = (rows.map (·.take n)).foldl (basS p inv) (prj n bw) ∧ high n (rows.foldl (basS p inv) bw) ≤ 1
  | [], bw, _, _, h => ⟨rfl, h⟩
  | r :: rows, bw, hr, hB, h1 => by
    have hr0 := hr r List.mem_cons_self
    obtain ⟨g1, g2, _, _⟩ := lessF_facts hI hB hr0
    have ht := lessF_take (inv := inv) hI.1 (fun b hb => (hB.mem b hb).1) hr0
    obtain ⟨x, hx⟩ : ∃ x, lessF p inv r bw = x := ⟨_, rfl⟩
    rw [hx] at g1 g2 ht
    have hxl := g1.1
    have hfx := fst_le x
    have hft := fst_take (r := x) (n := n) (by omega)
    have key : Bas p (n + 1) (basS p inv bw r) ∧ high n (basS p inv bw r) ≤ 1 ∧ prj n (basS p inv bw r) = basS p inv (prj n bw) (r.take n) := by
      unfold basS
      rw [← ht, hx, hft]
      have hxt : (x.take n).length = n := by rw [List.length_take]; omega
      rw [hxt, hxl]
      by_cases c1 : fst x < n
      · rw [if_pos (by omega), if_pos c1, if_pos c1, high_snoc, if_pos c1, prj_snoc, if_pos c1]
        exact ⟨hB.snoc g1 (by omega) g2, h1, rfl⟩
      · rw [if_neg c1, if_neg (Nat.lt_irrefl n)]
        by_cases c2 : fst x < n + 1
        · rw [if_pos c2, high_snoc, if_neg c1, prj_snoc, if_neg c1]
          refine ⟨hB.snoc g1 c2 g2, ?_, rfl⟩
          have h0 : high n bw = 0 := by
            unfold high
            rw [List.countP_eq_zero]
            intro b hb hc
            have hc' : ¬ fst b < n := by simpa using hc
            have := (hB.mem b hb).2
            have h2 := g2 b hb
            rw [show fst b = fst x by omega] at h2
            exact fst_ne (by omega) h2
          omega
        · rw [if_neg c2]
          exact ⟨hB, h1, rfl⟩
    obtain ⟨k1, k2, k3⟩ := key
    have := bas_par hI (rows := rows) (fun y hy => hr y (List.mem_cons_of_mem _ hy)) k1 k2
    rw [k3] at this
    exact this
theorem dvd_at0 {p a : Int} (h0 : 0 ≤ a) (h1 : a < p) (h : p ∣ a) : a = 0 := by
  by_cases c : a = 0
  · exact c
  · have := Int.le_of_dvd (by omega) h; omega
def errF (p : Int) (inv : Int → Int) (W : List (List Int)) (n : Nat) : Int :=
  if (baseF p inv (W.map (·.take n))).length < (baseF p inv W).length then 6 else if (baseF p inv (W.map (·.take n))).length < n then 7 else 0
theorem ann_take {W : List (List Int)} {n : Nat} (hW : ∀ r ∈ W, r.length = n + 1) {v : List Int} (hv : v.length = n) : Ann p W (v ++ [0]) ↔ Ann p (W.map (·.take n)) v := by
  have key : ∀ r ∈ W, dot r (v ++ [0]) = dot (r.take n) v := fun r hr => by
    have hl := hW r hr
    rw [dot_app hl hv, Int.mul_zero, Int.add_zero, dot_sum n (r.take n) v (by rw [List.length_take]; omega)]
    exact sumTo_congr fun j hj => by rw [at0_take, if_pos hj]
  unfold Ann
  constructor
  · intro h x hx
    obtain ⟨r, hr, rfl⟩ := List.mem_map.1 hx
    rw [← key r hr]; exact h r hr
  · intro h r hr
    rw [key r hr]; exact h _ (List.mem_map.2 ⟨r, hr, rfl⟩)
theorem err_eq (hI : Inv p inv) {W : List (List Int)} {n : Nat} (hW : ∀ r ∈ W, Red p (n + 1) r) : errF p inv W n = (solF p inv W n).1 := by
  have hp := hI.1
  have hl : ∀ r ∈ W, r.length = n + 1 := fun r hr => (hW r hr).1
  have hT := sol_told hI hl fun r hr j => (hW _ (row_mem hr)).2 j
  obtain ⟨B1, B2⟩ := base_facts hI hW
  have hA : ∀ r ∈ W.map (·.take n), Red p n r := fun x hx => by obtain ⟨r, hr, rfl⟩ := List.mem_map.1 hx; exact red_take hp (hW r hr)
  obtain ⟨A1, A2⟩ := base_facts hI hA
  obtain ⟨P1, P2⟩ := bas_par hI (n := n) (rows := W) (bw := []) hW trivial (Nat.zero_le _)
  have hlen := prj_len n (baseF p inv W)
  have P1' : prj n (baseF p inv W) = baseF p inv (W.map (·.take n)) := P1
  rw [P1'] at hlen
  have hbl := bas_len A1
  -- whether there is a solution
  have hsol : (baseF p inv (W.map (·.take n))).length < (baseF p inv W).length → ∀ x : List Int, x.length = n → ¬ Ann p W (x ++ [-1]) := fun hlt x hx hann => by
    have hpos : 0 < high n (baseF p inv W) := by omega
    obtain ⟨b, hb, hc⟩ := List.countP_pos_iff.1 hpos
    have hc : ¬ fst b < n := by simpa using hc
    have hm := B1.mem b hb
    have hfb : fst b = n := by omega
    have hd := (B2 _).2 hann b hb
    rw [dot_app hm.1.1 hx, sumTo_zero (fun j hj => by rw [fst_zero (by omega), Int.zero_mul])] at hd
    have hr := hm.1.2 n
    have hd2 : p ∣ at0 b n := by
      obtain ⟨t, ht⟩ := hd
      exact ⟨-t, by rw [Int.mul_neg]; omega⟩
    exact fst_ne (by rw [hm.1.1]; omega) (by rw [hfb]; exact dvd_at0 hr.1 hr.2 hd2)
  have hsol2 : ¬ (baseF p inv (W.map (·.take n))).length < (baseF p inv W).length → ∃ x : List Int, x.length = n ∧ Ann p W (x ++ [-1]) := fun hlt => by
    have h0 : high n (baseF p inv W) = 0 := by omega
    have hall : ∀ b ∈ baseF p inv W, fst b < n := fun b hb => by
      have := List.countP_eq_zero.1 h0 b hb
      simpa using this
    obtain ⟨y, y1, y2, y3⟩ := bas_solve hI B1 (List.replicate n 0 ++ [-1]) (by simp)
    have hy : y = y.take n ++ [-1] := by
      refine ext_at0 (by rw [List.length_append, List.length_take]; simp; omega) fun j hj => ?_
      rw [at0_app (n := n) (by rw [List.length_take]; omega), at0_take]
      by_cases c : j < n
      · rw [if_pos c, if_pos c]
      · have : j = n := by omega
        rw [if_neg c, if_pos this, this, y3 n fun b hb e => by have := hall b hb; omega, at0_app (n := n) (by simp), if_neg (Nat.lt_irrefl n), if_pos rfl]
    exact ⟨y.take n, by rw [List.length_take]; omega, by rw [← hy]; exact (B2 y).1 y2⟩
  have hker : (baseF p inv (W.map (·.take n))).length < n → ∃ v : List Int, v.length = n ∧ Ann p W (v ++ [0]) ∧ ∃ j, j < n ∧ at0 v j = 1 := fun hlt => by
    obtain ⟨f, hf, hnf⟩ := hbl.2 hlt
    obtain ⟨v, v1, v2, v3⟩ := bas_solve hI A1 ((List.range n).map fun j => if j = f then 1 else 0) (by simp)
    refine ⟨v, v1, (ann_take hl v1).2 ((A2 v).1 v2), f, hf, ?_⟩
    rw [v3 f hnf, at0_map, if_pos hf, if_pos rfl]
  have hker2 : ¬ (baseF p inv (W.map (·.take n))).length < n → ∀ v : List Int, v.length = n → Ann p W (v ++ [0]) → ∀ j, j < n → p ∣ at0 v j := fun hlt v hv hann => by
    refine bas_zero hI A1 v hv ((A2 v).2 ((ann_take hl hv).1 hann)) fun j hj hno => ?_
    exfalso
    have hn := bas_nodup A1
    have := (perm_of_nodup (l := j :: (baseF p inv (W.map (·.take n))).map fst) (m := List.range n) (by
      rw [List.nodup_cons]
      refine ⟨fun hm => ?_, hn⟩
      obtain ⟨b, hb, e⟩ := List.mem_map.1 hm
      exact hno b hb e) (fun x hx => by
      rcases List.mem_cons.1 hx with rfl | hx
      · exact List.mem_range.2 hj
      · obtain ⟨b, hb, rfl⟩ := List.mem_map.1 hx
        exact List.mem_range.2 (A1.mem b hb).2) (by rw [List.length_range, List.length_cons, List.length_map]; omega)).length_eq
    rw [List.length_range, List.length_cons, List.length_map] at this
    omega
  unfold errF
  rcases hT.cases with h | ⟨h, _⟩ | ⟨h, _⟩
  · obtain ⟨g1, g2, g3, g4⟩ := hT.one h
    have c1 : ¬ (baseF p inv (W.map (·.take n))).length < (baseF p inv W).length := fun c => hsol c _ g1 g3
    rw [if_neg c1, h]
    have c2 : ¬ (baseF p inv (W.map (·.take n))).length < n := fun c => by
      obtain ⟨v, v1, v2, j, hj, hv⟩ := hker c
      have := g4 v 0 v1 v2 j hj
      rw [hv, Int.zero_mul, Int.add_zero] at this
      have := Int.le_of_dvd (by omega) this
      omega
    rw [if_neg c2]
  · rw [h]
    by_cases c : (baseF p inv (W.map (·.take n))).length < (baseF p inv W).length
    · rw [if_pos c]
    · obtain ⟨x, x1, x2⟩ := hsol2 c
      exact absurd x2 (hT.none h x x1)
  · obtain ⟨⟨x, x1, x2⟩, v, v1, v2, j, hj, hv⟩ := hT.more h
    have c1 : ¬ (baseF p inv (W.map (·.take n))).length < (baseF p inv W).length := fun c => hsol c x x1 x2
    rw [if_neg c1, h]
    by_cases c2 : (baseF p inv (W.map (·.take n))).length < n
    · rw [if_pos c2]
    · have := hker2 c2 v v1 v2 j hj
      rw [hv] at this
      have := Int.le_of_dvd (by omega) this
      omega
end Go.Proofs.Vm.Fld
end

section
/- Inverses modulo 2^61 - 1. -/
namespace Go.Proofs.Vm.Fld
def E61 : Nat := 2305843009213693949
theorem E61_eq : P61 = E61 + 2 := by decide
theorem E61_val : (E61 : Int) = 2305843009213693949 := by decide
attribute [irreducible] E61
/-- The power that is two less than the prime. -/
def invF (a : Int) : Int := a ^ E61 % 2305843009213693951
theorem inv_nat (a : Nat) (h : a % P61 ≠ 0) : a * a ^ E61 % P61 = 1 := by
  have := inv61 h
  rw [E61_eq] at this
  exact E61_eq ▸ this
theorem inv_ok : Inv 2305843009213693951 invF := by
  refine ⟨by decide, fun a h0 h1 hn => ?_⟩
  obtain ⟨n, rfl⟩ := Int.eq_ofNat_of_zero_le h0
  have hP : ((P61 : Nat) : Int) = 2305843009213693951 := rfl
  have hn2 : n % P61 ≠ 0 := by
    have : n < P61 := by omega
    rw [Nat.mod_eq_of_lt this]
    omega
  have h := congrArg (fun x : Nat => (x : Int)) (inv_nat n hn2)
  unfold invF
  rw [← hP]
  simp only [Int.natCast_emod, Int.natCast_mul, Int.natCast_pow] at h
  rw [Int.mul_emod, Int.emod_emod, ← Int.mul_emod]
  exact h
end Go.Proofs.Vm.Fld
end

section
/- Solve: the field, and whether rows are even. -/
set_option maxRecDepth 8192
set_option maxHeartbeats 1000000
namespace Go.Proofs.YtmgnmnogiajlgaaGreatF
open Go Go.Proofs.Vm Go.Proofs.Vm.Fld

def cUr (r : List Int) : CV := .arr (r.map cU)
def cUm (m : List (List Int)) : CV := .arr (m.map fun r => [cUr r])
theorem field_Sub {a b : Int} (h0 : 0 ≤ a) (h1 : a < 18446744073709551616) (h2 : 0 ≤ b) (h3 : b < 18446744073709551616) : TV.pu 107 [cI .u64 a, cI .u64 b] = some (cI .u64 ((a - b) % 2305843009213693951)) := by
  refine run107 (by simp) ?_
  have e1 : IntKind.u64.wrap (a % 2305843009213693951 + 2305843009213693951) = a % 2305843009213693951 + 2305843009213693951 := u64_id (by omega) (by omega)
  have e2 : IntKind.u64.wrap (a % 2305843009213693951 + 2305843009213693951 - b % 2305843009213693951) = a % 2305843009213693951 + 2305843009213693951 - b % 2305843009213693951 := u64_id (by omega) (by omega)
  have e3 : (a % 2305843009213693951 + 2305843009213693951 - b % 2305843009213693951) % 2305843009213693951 = (a - b) % 2305843009213693951 := by omega
  have hO := field_Of (a := a % 2305843009213693951 + 2305843009213693951 - b % 2305843009213693951) (by omega) (by omega)
  rw [e3] at hO
  simp [Tryz.f107, field_Of h0 h1, field_Of h2 h3, e1, e2, hO]
theorem field_Inv {a : Int} (h0 : 0 ≤ a) (h1 : a < 2305843009213693951) (hn : a ≠ 0) : TV.pu 106 [cI .u64 a] = some (.tup [(false, [.v (.int .u64 (invF a))]), (false, [.v (.bool true)])]) := by
  refine run106 (by simp) ?_
  have hO := field_Of (a := a) h0 (by omega)
  rw [Int.emod_eq_of_lt h0 h1] at hO
  have hP := field_Pow (x := a) (n := E61) h0 (by omega) (by rw [E61_val]; omega)
  rw [E61_val] at hP
  have hi : a ^ E61 % 2305843009213693951 = invF a := rfl
  rw [hi] at hP
  obtain ⟨v, hv⟩ : ∃ v, invF a = v := ⟨_, rfl⟩
  rw [hv] at hP ⊢
  simp -implicitDefEqProofs [Tryz.f106, hO, hP, hn]

theorem index_urows {g : CV} {caps : List CV} {f : FuncId} (hg : g = .fn f caps) {p : List Int → Bool} {r : List (List Int)} (hp : ∀ n ∈ r, TV.pu f (.one (cUr n) :: caps.map .one) = some (cB (p n))) (hl : r.length < 9223372036854775807) :
    TV.pu 123 [.one (cUm r), .one g] = some (cI .i64 (idxF p r)) := by
  subst hg
  refine run123 (by simp) ?_
  simp [Tryz.f123, cUm]
  obtain ⟨I, hI⟩ : ∃ I : Nat → St → Prop, ∀ k s', I k s' ↔ (∃ e j, s' = ⟨e, []⟩ ∧ e 0 = .one (.c (cUm r)) ∧ e 1 = .one (.c (.fn f caps)) ∧ e 7 = vI .i64 r.length ∧ e 8 = vI .i64 (j : Nat) ∧ j + k = r.length ∧ ∀ q, q < j → ∀ x, r[q]? = some x → p x = false) := ⟨_, fun _ _ => Iff.rfl⟩
  refine wpL_ind I ?_ r.length _ ((hI _ _).2 ⟨_, 0, rfl, by simp [cUm], by simp, by simp, by simp, by omega, by simp⟩)
  intro k st hst
  obtain ⟨e, j, rfl, e0, e1, e7, e8, hk, hno⟩ := (hI _ _).1 hst
  by_cases c : j < r.length
  · have hx : r[j]? = some r[j] := List.getElem?_eq_getElem c
    have hpj := hp r[j] (List.getElem_mem c)
    have w1 : IntKind.i64.wrap ((j : Int) + 1) = ((j + 1 : Nat) : Int) := by rw [w64_id (by omega) (by omega)]; omega
    simp only [cUr] at hpj
    simp [e0, e1, e7, e8, cUm, cUr, c, hpj, w1]
    by_cases hj : p r[j] = true
    · simp [hj, idxF_at p r j c hj hno]
    · simp [hj]
      refine ⟨k - 1, by omega, (hI _ _).2 ⟨_, j + 1, rfl, by simp [e0], by simp [e1], by simp [e7], by simp, by omega, ?_⟩⟩
      intro q hq x hx2
      by_cases hqj : q = j
      · subst hqj
        rw [hx] at hx2
        cases hx2
        simpa using hj
      · exact hno q (by omega) x hx2
  · have c' : ¬ (j : Int) < (r.length : Int) := by omega
    simp [e0, e1, e7, e8, c']
    rw [idxF_none p r fun q hq => hno q (by omega)]
theorem contains_urows {g : CV} {caps : List CV} {f : FuncId} (hg : g = .fn f caps) {p : List Int → Bool} {r : List (List Int)} (hp : ∀ n ∈ r, TV.pu f (.one (cUr n) :: caps.map .one) = some (cB (p n))) (hl : r.length < 9223372036854775807) :
    TV.pu 103 [.one (cUm r), .one g] = some (cB (r.any p)) := by
  refine run103 (by simp) ?_
  have h := index_urows hg hp hl
  subst hg
  simp [Tryz.f103, h, idxF_ge, cUm] at h ⊢


def unevB (m : List (List Int)) (r : List Int) : Bool := decide (r.length ≠ (m.headD []).length) || decide (32 < r.length)
def evenB (m : List (List Int)) : Bool := decide (m.length ≤ 32) && !m.any (unevB m)
theorem sv_unev {m : List (List Int)} {r : List Int} (hm : m ≠ []) : TV.pu 104 [.one (cUr r), .one (.cptr [cUm m])] = some (cB (unevB m r)) := by
  refine run104 (by simp) ?_
  obtain ⟨h, t, rfl⟩ : ∃ h t, m = h :: t := by cases m with | nil => exact absurd rfl hm | cons h t => exact ⟨h, t, rfl⟩
  have hB : unevB (h :: t) r = (decide (r.length ≠ h.length) || decide (32 < r.length)) := rfl
  rw [hB]
  by_cases h3 : (r.length : Int) = h.length
  · have g3 : ¬ r.length ≠ h.length := by omega
    rw [decide_eq_false g3, Bool.false_or]
    have h3' : ((r.length : Int) != (h.length : Int)) = false := by simp [h3]
    by_cases h4 : 32 < r.length
    · have h4' : 32 < (r.length : Int) := by omega
      simp -implicitDefEqProofs [Tryz.f104, cUm, cUr, h3', h4, h4']
    · have h4' : ¬ 32 < (r.length : Int) := by omega
      simp -implicitDefEqProofs [Tryz.f104, cUm, cUr, h3', h4, h4']
  · have g3 : r.length ≠ h.length := by omega
    rw [decide_eq_true g3, Bool.true_or]
    have h3' : ((r.length : Int) != (h.length : Int)) = true := by simp; omega
    simp -implicitDefEqProofs [Tryz.f104, cUm, cUr, h3']
theorem sv_even {m : List (List Int)} (hl : m.length < 4611686018427387904) : TV.pu 66 [.one (cUm m)] = some (cB (evenB m)) := by
  refine run66 (by simp) ?_
  have hc : TV.pu 103 [.one (cUm m), .one (.fn 104 [.cptr [cUm m]])] = some (cB (m.any (unevB m))) :=
    contains_urows rfl (fun n hn => sv_unev (by rintro rfl; simp at hn)) (by omega)
  unfold evenB
  simp only [cUm] at hc
  by_cases h : m.length ≤ 32
  · have h' : (m.length : Int) ≤ 32 := by omega
    simp -implicitDefEqProofs [Tryz.f66, cUm, h, h', hc]
  · have h' : ¬ (m.length : Int) ≤ 32 := by omega
    simp -implicitDefEqProofs [Tryz.f66, cUm, h, h']
end Go.Proofs.YtmgnmnogiajlgaaGreatF
end

section
/- Rewriting rules for rows of own rows. -/
namespace Go.Proofs.Vm
open Go

variable {P : Program} {H : Hp}

theorem vbuildN_yes {cb : Bool} {nid : Nat} {ρ : Operand → Option AV} {t : TypeId} {len : Nat} {ps : List (Nat × Operand)} : vbuildN P true cb H nid ρ t len ps = if ownPart ρ ps = true then vbuildO P nid ρ t len ps else vbuildT P cb H nid ρ t len ps := by
  unfold vbuildN
  simp
theorem vbuildO_eq {nid : Nat} {ρ : Operand → Option AV} {t e : TypeId} {ps : List (Nat × Operand)} {b : Nat} {z : List CV} (he : elemOfSlice P t = some e) (hel : elOf P e = some (1, b, z)) {c : Cell} (hp : partsOf ρ ps = some [(0, [c])]) :
    vbuildO P nid ρ t 1 ps = some (.one (.sl nid 0 1 1), [.opn [[c]] false], []) := by
  obtain ⟨i, v, h1, h2, h3, h4, h5, h6, h7⟩ := elOf_facts hel
  unfold vbuildO
  simp only [he, hp, h1, h2]
  rw [if_pos ⟨trivial, h3, h6⟩]
theorem vbuildO_m {nid : Nat} {ρ : Operand → Option AV} {t e : TypeId} {ps : List (Nat × Operand)} {b : Nat} {z : List CV} (he : elemOfSlice P t = some e) (hel : elOf P e = some (1, b, z)) :
    vbuildO P nid ρ t 1 ps = match partsOf ρ ps with
      | some [(0, [c])] => some (.one (.sl nid 0 1 1), [.opn [[c]] false], [])
      | _ => none := by
  split
  · rename_i c h
    exact vbuildO_eq he hel h
  · rename_i hn
    obtain ⟨i, v, h1, h2, h3, h4, h5, h6, h7⟩ := elOf_facts hel
    unfold vbuildO
    split
    · rename_i e' c he' hp
      exact absurd hp (hn c)
    · rfl
theorem vappendN_yes {t tx : TypeId} {s x : AV} : vappendN P true H t tx s x = if (elemsO H x).isSome = true then vappendO P H t tx s x else vappend P H t tx s x := by
  unfold vappendN
  simp
theorem vappendO_eq {t tx e ex : TypeId} {id n : Nat} {l xs : List (List Cell)} {x : AV} {sz b : Nat} {z : List CV} (he : elemOfSlice P t = some e) (hex : elemOfSlice P tx = some ex) (hel : elOf P e = some (sz, b, z))
    (hH : opnOf H id = some l) (hx : elemsO H x = some xs) (hn : l.length = n) (hl : ∀ e ∈ l, e.length = sz) (hxs : ∀ e ∈ xs, e.length = sz) (hs : b * (n + xs.length) ≤ 140737488355328) (h62 : n + xs.length ≤ 4611686018427387904) (hx0 : 0 < xs.length) :
    vappendO P H t tx (.one (.sl id 0 n n)) x = some (.one (.sl id 0 (n + xs.length) (n + xs.length)), H.set id (.opn (l ++ xs) false)) := by
  obtain ⟨i, v, h1, h2, h3, h4, h5, h6, h7⟩ := elOf_facts hel
  unfold vappendO
  simp only [he, hex, hx, hH, h1, h2, h3, h4]
  rw [if_pos ⟨trivial, trivial, hn, hl, hxs, h6, by simp [small]; exact hs, h62, hx0⟩]
/-- An open row of own rows: one more. -/
theorem vappendO_own {t e : TypeId} {id n k : Nat} {l : List (List Cell)} {c : Cell} {b : Nat} {z : List CV} (he : elemOfSlice P t = some e) (hel : elOf P e = some (1, b, z))
    (hH : opnOf H id = some l) (hk : H[k]? = some (.opn [[c]] false)) (hn : l.length = n) (hl : ∀ e ∈ l, e.length = 1) (hs : b * (n + 1) ≤ 140737488355328) (h62 : n + 1 ≤ 4611686018427387904) :
    vappendN P true H t t (.one (.sl id 0 n n)) (.one (.sl k 0 1 1)) = some (.one (.sl id 0 (n + 1) (n + 1)), H.set id (.opn (l ++ [[c]]) false)) := by
  have hx : elemsO H (.one (.sl k 0 1 1)) = some [[c]] := by simp [elemsO, hk]
  rw [vappendN_yes, if_pos (by rw [hx]; rfl)]
  exact vappendO_eq he he hel hH hx hn hl (by simp) hs h62 (by simp)
theorem vappendN_clo {t tx : TypeId} {s x : AV} (h : elemsO H x = none) : vappendN P true H t tx s x = vappend P H t tx s x := by rw [vappendN_yes, h]; rfl
attribute [simp] vbuildN_yes ownPart
end Go.Proofs.Vm
end

section
/- Solve: rows in own places. -/
set_option maxRecDepth 8192
set_option maxHeartbeats 2000000
namespace Go.Proofs.YtmgnmnogiajlgaaGreatF
open Go Go.Proofs.Vm Go.Proofs.Vm.Fld

def rowC (x : Nat × List Int) : List Cell := [.sl x.1 0 x.2.length x.2.length]
def topE (L : List (Nat × List Int)) : Ent := if L = [] then .clo [] false else .opn (L.map rowC) false
def rowE (r : List Int) : Ent := .clo (r.map cU) false
/-- Rows that lie in a heap, each in its own place. -/
structure MH (H : Hp) (L : List (Nat × List Int)) : Prop where
  top : H[2]? = some (topE L)
  rows : ∀ k (h : k < L.length), H[L[k].1]? = some (rowE L[k].2)
  nd : (2 :: L.map (·.1)).Nodup
theorem MH.ext {H K : Hp} {L : List (Nat × List Int)} (h : MH H L) (h2 : K[2]? = H[2]?) (hr : ∀ k (h : k < L.length), K[L[k].1]? = H[L[k].1]?) : MH K L :=
  ⟨h2.trans h.top, fun k hk => (hr k hk).trans (h.rows k hk), h.nd⟩
theorem MH.app {H : Hp} {L : List (Nat × List Int)} (h : MH H L) (T : Hp) : MH (H ++ T) L :=
  h.ext (List.getElem?_append_left (List.getElem?_eq_some_iff.1 h.top).1) fun k hk => List.getElem?_append_left (List.getElem?_eq_some_iff.1 (h.rows k hk)).1
theorem MH.other {H : Hp} {L : List (Nat × List Int)} (h : MH H L) {j : Nat} (hj : j ≠ 2) (hl : ∀ k (h : k < L.length), L[k].1 ≠ j) (e : Ent) : MH (H.set j e) L :=
  h.ext (set_get fun e => hj e.symm) fun k hk => set_get (hl k hk)
theorem MH.lt {H : Hp} {L : List (Nat × List Int)} (h : MH H L) {k : Nat} (hk : k < L.length) : L[k].1 < H.length := (List.getElem?_eq_some_iff.1 (h.rows k hk)).1
theorem MH.lt2 {H : Hp} {L : List (Nat × List Int)} (h : MH H L) : 2 < H.length := (List.getElem?_eq_some_iff.1 h.top).1
theorem MH.ne {H : Hp} {L : List (Nat × List Int)} (h : MH H L) {k : Nat} (hk : k < L.length) : L[k].1 ≠ 2 := fun e =>
  (List.nodup_cons.1 h.nd).1 (List.mem_map.2 ⟨L[k], List.getElem_mem hk, e⟩)
theorem MH.inj {H : Hp} {L : List (Nat × List Int)} (h : MH H L) {j k : Nat} (hj : j < L.length) (hk : k < L.length) (e : L[j].1 = L[k].1) : j = k := by
  have := (List.nodup_cons.1 h.nd).2
  exact (List.getElem_inj (h₀ := by simpa using hj) (h₁ := by simpa using hk) this).1 (by simpa using e)
theorem MH.opn {H : Hp} {L : List (Nat × List Int)} (h : MH H L) : opnOf H 2 = some (L.map rowC) := by
  unfold opnOf
  rw [h.top]
  unfold topE
  by_cases e : L = []
  · subst e; rfl
  · rw [if_neg e]
theorem MH.top' {H : Hp} {L : List (Nat × List Int)} (h : MH H L) (h0 : 0 < L.length) : H[2]? = some (.opn (L.map rowC) false) := by
  rw [h.top, topE, if_neg (List.length_pos_iff.1 h0)]
theorem MH.push {H : Hp} {L : List (Nat × List Int)} (h : MH H L) {id : Nat} {r : List Int} (h2 : id ≠ 2) (hn : ∀ k (h : k < L.length), L[k].1 ≠ id) (hr : H[id]? = some (rowE r)) :
    MH (H.set 2 (.opn (L.map rowC ++ [[.sl id 0 r.length r.length]]) false)) (L ++ [(id, r)]) := by
  refine ⟨?_, fun k hk => ?_, ?_⟩
  · rw [set_self h.top, topE, if_neg (by simp), List.map_append]
    rfl
  · rw [List.getElem_append]
    split
    · rename_i hk'
      rw [set_get (h.ne hk')]
      exact h.rows k hk'
    · rename_i hk'
      simp only [List.getElem_singleton]
      rw [set_get h2]
      exact hr
  · rw [List.map_append, ← List.cons_append, List.nodup_append]
    refine ⟨h.nd, by simp, ?_⟩
    intro a ha b hb
    simp only [List.map_cons, List.map_nil, List.mem_singleton] at hb
    subst hb
    rcases List.mem_cons.1 ha with rfl | ha
    · exact fun e => h2 e.symm
    · obtain ⟨x, hx, rfl⟩ := List.mem_map.1 ha
      obtain ⟨k, hk, rfl⟩ := List.getElem_of_mem hx
      exact hn k hk
theorem MH.row {H : Hp} {L : List (Nat × List Int)} (h : MH H L) {k : Nat} (hk : k < L.length) {r : List Int} (hr : r.length = L[k].2.length) : MH (H.set L[k].1 (rowE r)) (L.set k (L[k].1, r)) := by
  have e : (L.set k (L[k].1, r)).map (·.1) = L.map (·.1) := by
    rw [List.map_set]
    apply List.ext_getElem (by simp)
    intro i h1 h2
    rw [List.getElem_set]
    split
    · rename_i e; subst e; simp
    · rfl
  have e2 : (L.set k (L[k].1, r)).map rowC = L.map rowC := by
    rw [List.map_set]
    apply List.ext_getElem (by simp)
    intro i h1 h2
    rw [List.getElem_set]
    split
    · rename_i e; subst e; simp [rowC, hr]
    · rfl
  refine ⟨?_, fun i hi => ?_, by rw [e]; exact h.nd⟩
  · rw [set_get (fun e => h.ne hk e.symm), h.top]
    have : L ≠ [] := by rintro rfl; simp at hk
    rw [topE, topE, if_neg this, if_neg (by intro e; exact this ((List.set_eq_nil_iff _ _).1 e)), e2]
  · have hi' : i < L.length := by simpa using hi
    rw [List.getElem_set]
    by_cases ek : k = i
    · subst ek
      rw [if_pos rfl]
      exact set_self (h.rows k hk)
    · rw [if_neg ek, set_get (fun e => ek (h.inj hk hi' e.symm))]
      exact h.rows i hi'
def swpL (L : List (Nat × List Int)) (i j : Nat) (hi : i < L.length) (hj : j < L.length) : List (Nat × List Int) := (L.set i L[j]).set j L[i]
theorem swpL_get {L : List (Nat × List Int)} {i j : Nat} (hi : i < L.length) (hj : j < L.length) (k : Nat) (hk : k < (swpL L i j hi hj).length) (hk' : k < L.length) : (swpL L i j hi hj)[k] = if j = k then L[i] else if i = k then L[j] else L[k] := by
  simp only [swpL, List.getElem_set]
theorem MH.swp {H : Hp} {L : List (Nat × List Int)} (h : MH H L) {i j : Nat} (hi : i < L.length) (hj : j < L.length) : MH (H.set 2 (.opn ((swpL L i j hi hj).map rowC) false)) (swpL L i j hi hj) := by
  have hlen : (swpL L i j hi hj).length = L.length := by simp [swpL]
  have hget : ∀ k (hk : k < (swpL L i j hi hj).length), ∃ q, ∃ hq : q < L.length, (swpL L i j hi hj)[k] = L[q] := fun k hk => by
    rw [swpL_get hi hj k hk (by rw [← hlen]; exact hk)]
    split
    · exact ⟨i, hi, rfl⟩
    · split
      · exact ⟨j, hj, rfl⟩
      · exact ⟨k, by rw [← hlen]; exact hk, rfl⟩
  have key : ∀ k (hk : k < L.length), ∃ q, ∃ hq : q < L.length, (if j = k then L[i] else if i = k then L[j] else L[k]) = L[q] ∧ q = (if j = k then i else if i = k then j else k) := fun k hk => by
    by_cases c1 : j = k
    · exact ⟨i, hi, by rw [if_pos c1], by rw [if_pos c1]⟩
    · by_cases c2 : i = k
      · exact ⟨j, hj, by rw [if_neg c1, if_pos c2], by rw [if_neg c1, if_pos c2]⟩
      · exact ⟨k, hk, by rw [if_neg c1, if_neg c2], by rw [if_neg c1, if_neg c2]⟩
  refine ⟨?_, fun k hk => ?_, ?_⟩
  · rw [set_self h.top, topE, if_neg (by intro e; rw [e] at hlen; simp at hlen; omega)]
  · obtain ⟨q, hq, e⟩ := hget k hk
    rw [e, set_get (h.ne hq)]
    exact h.rows q hq
  · rw [List.nodup_cons]
    constructor
    · intro hm
      obtain ⟨x, hx, ex⟩ := List.mem_map.1 hm
      obtain ⟨k, hk, rfl⟩ := List.getElem_of_mem hx
      obtain ⟨q, hq, e⟩ := hget k hk
      exact h.ne hq (by rw [← e]; exact ex)
    · rw [List.nodup_iff_pairwise_ne, List.pairwise_iff_getElem]
      intro a b ha hb hab e
      have ha' : a < L.length := by simpa [hlen] using ha
      have hb' : b < L.length := by simpa [hlen] using hb
      simp only [List.getElem_map] at e
      obtain ⟨qa, hqa, ea, fa⟩ := key a ha'
      obtain ⟨qb, hqb, eb, fb⟩ := key b hb'
      rw [swpL_get hi hj a _ ha', swpL_get hi hj b _ hb', ea, eb] at e
      have e := h.inj hqa hqb e
      rw [fa, fb] at e
      clear fa fb
      split at e <;> (try split at e) <;> (try split at e) <;> (try split at e) <;> omega
end Go.Proofs.YtmgnmnogiajlgaaGreatF
end

section
/- Solve: clear. -/
set_option maxRecDepth 8192
set_option maxHeartbeats 2000000
namespace Go.Proofs.YtmgnmnogiajlgaaGreatF
open Go Go.Proofs.Vm Go.Proofs.Vm.Fld

abbrev PP : Int := 2305843009213693951
def redR (r : List Int) : List Int := r.map fun n => n % 2305843009213693951
theorem mk_row {nid n : Nat} (h : n ≤ 64) : vmakeSlice Tryz.prog true nid 57 (vI .i64 n) (vI .i64 n) = some (.one (.sl nid 0 n n), [rowE (List.replicate n 0)], []) := by
  rw [vmakeSlice_eq es57 el37, if_pos ⟨by omega, rfl, by simp [small]; omega, by omega⟩]
  simp [rowE, cU]
theorem st_row {H : Hp} {nest : Bool} {id j n : Nat} {r : List Int} {v : Int} (h : H[id]? = some (rowE r)) (hj : j < r.length) (hn : r.length = n) :
    vstore Tryz.prog nest H 37 (.one (.ptr ⟨id, j, 0, n⟩)) (.one (.c (.v (.int .u64 v)))) = some (H.set id (rowE (r.set j v))) := by
  subst hn
  have e : (List.map cU r).modify j (fun e => Vm.wr e 0 [CV.v (Value.int .u64 v)]) = List.map cU (r.set j v) := by
    rw [List.map_set]
    apply List.ext_getElem (by simp)
    intro i h1 h2
    rw [List.getElem_modify, List.getElem_set]
    by_cases c : j = i
    · subst c; simp [cU, wr]
    · rw [if_neg c, if_neg c]
  rw [rowE] at h
  have e2 : ¬ cU r[j] = [] := by simp [cU]
  simp [vstore, cellsOf?, h, hj, hasRef, Ent.wrC, rowE, e, e2]
/-- The heap of clear: the rows, and what has been put to the steps. -/
structure CH (H : Hp) (L : List (Nat × List Int)) (d : Nat) (a : List Nat) : Prop where
  mh : MH H L
  at' : H[d]? = some (.clo (a.map fun (n : Nat) => cInt (n : Int)) false)
  d2 : d ≠ 2
  dn : ∀ k (h : k < L.length), L[k].1 ≠ d
def rws (L : List (Nat × List Int)) : List (List Int) := L.map (·.2)
theorem rws_len (L : List (Nat × List Int)) : (rws L).length = L.length := by simp [rws]
theorem rws_row {L : List (Nat × List Int)} {k : Nat} (h : k < L.length) : row (rws L) k = L[k].2 := by
  rw [row_eq (by rw [rws_len]; exact h)]
  simp [rws]
theorem at0_get {r : List Int} {j : Nat} (h : j < r.length) : at0 r j = r[j] := by simp [at0, h]
theorem pvt_is {m : List (List Int)} {c k q : Nat} (h1 : k ≤ q) (h2 : q < m.length) (h3 : at0 (row m q) c ≠ 0) (h4 : ∀ j, k ≤ j → j < q → at0 (row m j) c = 0) : pvt m c k = some q := by
  unfold pvt
  rw [List.find?_range'_eq_some]
  refine ⟨by simpa using h3, by simp only [List.mem_range'_1]; omega, fun j hj hq => by simpa using h4 j hj hq⟩
theorem pvt_no {m : List (List Int)} {c k : Nat} (h : ∀ j, k ≤ j → j < m.length → at0 (row m j) c = 0) : pvt m c k = none := by
  unfold pvt
  rw [List.find?_eq_none]
  intro j hj
  simp only [List.mem_range'_1] at hj
  simpa using h j hj.1 (by omega)
theorem st_top {H : Hp} {k n : Nat} {l : List (List Cell)} {c c' : Cell} (h : H[2]? = some (.opn l false)) (hk : l[k]? = some [c']) (hn : l.length = n) :
    vstore Tryz.prog true H 57 (.one (.ptr ⟨2, k, 0, n⟩)) (.one c) = some (H.set 2 (.opn (l.set k [c]) false)) := by
  have hlt := (List.getElem?_eq_some_iff.1 hk).1
  have e : l.modify k (fun e => Vm.wr e 0 [c]) = l.set k [c] := by
    apply List.ext_getElem (by simp)
    intro i h1 h2
    rw [List.getElem_modify, List.getElem_set]
    by_cases q : k = i
    · subst q
      have : l[k] = [c'] := by rw [List.getElem?_eq_getElem hlt] at hk; exact Option.some.inj hk
      simp [this, wr]
    · rw [if_neg q, if_neg q]
  simp [vstore, cellsOf?, h, hn, hk, Ent.wrO, e]
/-- The rows k and p change places. -/
theorem CH.swp {H : Hp} {L : List (Nat × List Int)} {d k p n : Nat} {a : List Nat} (h : CH H L d a) (hk : k < L.length) (hp : p < L.length) (hn : L.length = n) : ∃ H1 H2 l1 c1, (H1[2]? = some (.opn l1 false) ∧ l1.length = n ∧ l1[p]? = some [c1]) ∧
    vstore Tryz.prog true H 57 (.one (.ptr ⟨2, k, 0, n⟩)) (.one (.sl L[p].1 0 L[p].2.length L[p].2.length)) = some H1 ∧
    vstore Tryz.prog true H1 57 (.one (.ptr ⟨2, p, 0, n⟩)) (.one (.sl L[k].1 0 L[k].2.length L[k].2.length)) = some H2 ∧ CH H2 (swpL L k p hk hp) d a := by
  have hT := h.mh.top' (by omega)
  have e1 := st_top (c := .sl L[p].1 0 L[p].2.length L[p].2.length) (k := k) (n := n) (c' := .sl L[k].1 0 L[k].2.length L[k].2.length) hT (by simp [hk, rowC]) (by simp [hn])
  obtain ⟨c', hc'⟩ : ∃ c', ((L.map rowC).set k [.sl L[p].1 0 L[p].2.length L[p].2.length])[p]? = some [c'] := by
    rw [List.getElem?_set]
    by_cases e : k = p
    · subst e; rw [if_pos rfl, if_pos (by simpa using hk)]; exact ⟨_, rfl⟩
    · rw [if_neg e]; exact ⟨.sl L[p].1 0 L[p].2.length L[p].2.length, by simp [hp, rowC]⟩
  have e2 := st_top (H := H.set 2 (.opn ((L.map rowC).set k [.sl L[p].1 0 L[p].2.length L[p].2.length]) false)) (c := .sl L[k].1 0 L[k].2.length L[k].2.length) (k := p) (n := n) (set_self hT) hc' (by simp [hn])
  refine ⟨_, _, _, c', ⟨set_self hT, by simp [hn], hc'⟩, e1, e2, ?_⟩
  have e3 : ((L.map rowC).set k [.sl L[p].1 0 L[p].2.length L[p].2.length]).set p [.sl L[k].1 0 L[k].2.length L[k].2.length] = (swpL L k p hk hp).map rowC := by
    rw [swpL, List.map_set, List.map_set]
    rfl
  rw [List.set_set, e3]
  refine ⟨h.mh.swp hk hp, ?_, h.d2, fun j hj => ?_⟩
  · rw [set_get h.d2]; exact h.at'
  · have hj' : j < L.length := by simpa [swpL] using hj
    rw [swpL_get hk hp j hj hj']
    split
    · exact h.dn k hk
    · split
      · exact h.dn p hp
      · exact h.dn j hj'
theorem CH.row {H : Hp} {L : List (Nat × List Int)} {d k : Nat} {a : List Nat} (h : CH H L d a) (hk : k < L.length) {r : List Int} (hr : r.length = L[k].2.length) : CH (H.set L[k].1 (rowE r)) (L.set k (L[k].1, r)) d a := by
  refine ⟨h.mh.row hk hr, ?_, h.d2, fun j hj => ?_⟩
  · rw [set_get (fun e => h.dn k hk e.symm)]; exact h.at'
  · rw [List.getElem_set]
    split
    · exact h.dn k hk
    · exact h.dn j (by simpa using hj)
theorem CH.push {H : Hp} {L : List (Nat × List Int)} {d : Nat} {a : List Nat} (h : CH H L d a) (ha : a.length ≤ 1000) (c : Nat) : ∃ H',
    vappendN Tryz.prog true (H ++ [.clo [[.v (.int .i64 c)]] false]) 121 121 (.one (.sl d 0 a.length a.length)) (.one (.sl H.length 0 1 1)) = some (.one (.sl d 0 (a.length + 1) (a.length + 1)), H') ∧ CH H' L d (a ++ [c]) := by
  have hd := (List.getElem?_eq_some_iff.1 h.at').1
  have hdH : (H ++ [.clo [[.v (.int .i64 c)]] false])[d]? = some (.clo (a.map fun (n : Nat) => cInt (n : Int)) false) := by rw [List.getElem?_append_left hd]; exact h.at'
  have e := vappend_eq (P := Tryz.prog) (H := H ++ [.clo [[.v (.int .i64 c)]] false]) (t := 121) (tx := 121) (id := d) (n := a.length) (l := a.map fun (n : Nat) => cInt (n : Int)) (xs := [[.v (.int .i64 c)]]) (x := .one (.sl H.length 0 1 1)) es121 es121 el3
    hdH (by simp [elemsOf]) (by simp) (by intro e he; obtain ⟨y, -, rfl⟩ := List.mem_map.1 he; rfl) (by simp) (by simp; omega) (by simp; omega)
  refine ⟨_, by rw [vappendN_clo (by simp [elemsO])]; exact e, ?_⟩
  refine ⟨(h.mh.app _).other h.d2 h.dn _, ?_, h.d2, h.dn⟩
  rw [set_self hdH, List.map_append]
  rfl
theorem mapO_al {α β : Type} {f : α → Option β} : ∀ {l : List α} {m : List β}, l.length = m.length → (∀ (j : Nat) x y, l[j]? = some x → m[j]? = some y → f x = some y) → mapO f l = some m
  | [], [], _, _ => rfl
  | [], _ :: _, h, _ => by simp at h
  | _ :: _, [], h, _ => by simp at h
  | x :: l, y :: m, h, g => by
    have h1 := g 0 x y rfl rfl
    have h2 := mapO_al (l := l) (m := m) (by simpa using h) fun j u v hu hv => g (j + 1) u v (by simpa using hu) (by simpa using hv)
    simp [mapO, h1, h2]
theorem fz_rws {h : Hp} {id n : Nat} {l : List (List Cell)} {out : List CV} (hid : h[id]? = some (.opn l false)) (hl : l.length = n) (ho : out.length = n) (hc : ∀ (j : Nat) x y, l[j]? = some x → out[j]? = some y → ∃ c, x = [c] ∧ fzc 4 h c = some y) : fzc 5 h (.sl id 0 n n) = some (.arr (out.map fun c => [c])) := by
  have hm : mapO (mapO (fzc 4 h)) l = some (out.map fun c => [c]) := by
    refine mapO_al (by simp [hl, ho]) fun j x y hx hy => ?_
    obtain ⟨z, hz, rfl⟩ := Option.map_eq_some_iff.1 (by rw [← List.getElem?_map]; exact hy)
    obtain ⟨c, rfl, hcc⟩ := hc j x z hx hz
    simp only [mapO, hcc]
  unfold fzc
  simp only [hid, hl, if_true, List.drop_zero]
  rw [List.take_of_length_le (by omega), hm]
  rfl
theorem CH.fz1 {H : Hp} {L : List (Nat × List Int)} {d n : Nat} {a : List Nat} (h : CH H L d a) (hn : L.length = n) (h0 : 0 < n) : fzc 5 H (.sl 2 0 n n) = some (cUm (rws L)) := by
  refine (fz_rws (out := (rws L).map cUr) (h.mh.top' (by omega)) (by simp [hn]) (by simp [rws_len, hn]) fun j x y hx hy => ?_).trans (by simp [cUm])
  have hj : j < L.length := by
    have := (List.getElem?_eq_some_iff.1 hx).1
    simpa using this
  have hr := h.mh.rows j hj
  simp only [rowE] at hr
  simp [hj, rowC] at hx
  simp [rws, hj] at hy
  subst hx hy
  exact ⟨_, rfl, by simp [fzc, hr, cUr]; rw [List.take_of_length_le (by simp)]⟩
theorem CH.fz2 {H : Hp} {L : List (Nat × List Int)} {d : Nat} {a : List Nat} (h : CH H L d a) : fzc 5 H (.sl d 0 a.length a.length) = some (.arr (a.map fun (n : Nat) => cInt (n : Int))) := by
  have := h.at'
  unfold fzc
  simp only [this, List.length_map, if_true, List.drop_zero]
  rw [List.take_of_length_le (by simp)]
/-- Of two rows the second one's first numbers, then the first one's. -/
def mixR (a b : List Int) (j : Nat) : List Int := a.mapIdx fun t n => if t < j then b.getD t 0 else n
theorem mixR_len (a b : List Int) (j : Nat) : (mixR a b j).length = a.length := by simp [mixR]
theorem mixR_zero (a b : List Int) : mixR a b 0 = a := by
  apply List.ext_getElem (by simp [mixR])
  intro i h1 h2
  simp [mixR]
theorem mixR_all {a b : List Int} (h : a.length = b.length) {j : Nat} (hj : a.length ≤ j) : mixR a b j = b := by
  apply List.ext_getElem (by simp [mixR, h])
  intro i h1 h2
  have : i < j := by omega
  simp [mixR, this, h2]
theorem mixR_get {a b : List Int} {j i : Nat} (hi : i < a.length) (hij : j ≤ i) : (mixR a b j)[i]? = some a[i] := by
  have : ¬ i < j := by omega
  simp [mixR, hi, this]
theorem mixR_set {a b : List Int} {j : Nat} (hj : j < a.length) (h : a.length = b.length) : (mixR a b j).set j (b[j]'(by omega)) = mixR a b (j + 1) := by
  apply List.ext_getElem (by simp [mixR])
  intro i h1 h2
  rw [List.getElem_set]
  simp only [mixR, List.getElem_mapIdx]
  by_cases c : j = i
  · subst c
    have hj' : j < b.length := by omega
    simp [hj']
  · rw [if_neg c]
    by_cases c2 : i < j
    · rw [if_pos c2, if_pos (by omega)]
    · rw [if_neg c2, if_neg (by omega)]
/-- The rows before the t-th one are cleared. -/
def clrL (b : List Int) (c k : Nat) (L : List (Nat × List Int)) (t : Nat) : List (Nat × List Int) := L.mapIdx fun i y => if i < t ∧ i ≠ k then (y.1, elm PP (at0 y.2 c) b y.2) else y
theorem clrL_len (b : List Int) (c k : Nat) (L : List (Nat × List Int)) (t : Nat) : (clrL b c k L t).length = L.length := by simp [clrL]
theorem clrL_get {b : List Int} {c k : Nat} {L : List (Nat × List Int)} {t i : Nat} (h : i < (clrL b c k L t).length) (h' : i < L.length) : (clrL b c k L t)[i] = if i < t ∧ i ≠ k then (L[i].1, elm PP (at0 L[i].2 c) b L[i].2) else L[i] := by simp [clrL]
theorem clrL_zero (b : List Int) (c k : Nat) (L : List (Nat × List Int)) : clrL b c k L 0 = L := by
  apply List.ext_getElem (by simp [clrL])
  intro i h1 h2
  rw [clrL_get h1 h2, if_neg (by omega)]
theorem clrL_k (b : List Int) (c k : Nat) (L : List (Nat × List Int)) : clrL b c k L (k + 1) = clrL b c k L k := by
  apply List.ext_getElem (by simp [clrL])
  intro i h1 h2
  have h3 : i < L.length := by rw [clrL_len] at h1; exact h1
  rw [clrL_get h1 h3, clrL_get h2 h3]
  by_cases e : i < k
  · rw [if_pos ⟨by omega, by omega⟩, if_pos ⟨e, by omega⟩]
  · rw [if_neg (by omega), if_neg (by omega)]
theorem clrL_succ {b : List Int} {c k : Nat} {L : List (Nat × List Int)} {t : Nat} (hk : t ≠ k) (ht : t < L.length) : clrL b c k L (t + 1) = (clrL b c k L t).set t (L[t].1, elm PP (at0 L[t].2 c) b L[t].2) := by
  apply List.ext_getElem (by simp [clrL])
  intro i h1 h2
  have h3 : i < L.length := by rw [clrL_len] at h1; exact h1
  rw [clrL_get h1 h3, List.getElem_set]
  by_cases e : t = i
  · subst e; rw [if_pos ⟨by omega, hk⟩, if_pos rfl]
  · rw [if_neg e, clrL_get _ h3]
    by_cases e2 : i < t ∧ i ≠ k
    · rw [if_pos e2, if_pos ⟨by omega, e2.2⟩]
    · rw [if_neg e2, if_neg (by omega)]
theorem clrL_rws {b : List Int} {c k : Nat} {L : List (Nat × List Int)} {m : List (List Int)} (h : rws L = m.set k b) {t : Nat} (ht : L.length ≤ t) : rws (clrL b c k L t) = elims PP b m k c := by
  unfold elims
  rw [← h]
  apply List.ext_getElem (by simp [rws, clrL])
  intro i h1 h2
  have h3 : i < L.length := by rw [rws_len, clrL_len] at h1; exact h1
  simp only [rws, List.getElem_map, List.getElem_mapIdx]
  rw [clrL_get _ h3]
  by_cases e : i = k
  · rw [if_neg (by omega), if_pos e]
  · rw [if_pos ⟨by omega, e⟩, if_neg e]
theorem elm_zero {b y : List Int} (hl : y.length = b.length) (hy : ∀ t (h : t < y.length), 0 ≤ y[t] ∧ y[t] < 2305843009213693951) : elm PP 0 b y = y := by
  apply List.ext_getElem (by simp [elm, hl])
  intro i h1 h2
  simp only [elm, List.getElem_zipWith, Int.zero_mul, Int.zero_emod, Int.sub_zero]
  exact Int.emod_eq_of_lt (hy i h2).1 (hy i h2).2
theorem sv_clear {m : List (List Int)} {cols w : Nat} (h0 : m ≠ []) (hw : ∀ r ∈ m, r.length = w) (hn : ∀ r ∈ m, ∀ n ∈ r, 0 ≤ n ∧ n < 18446744073709551616) (hl : m.length ≤ 64) (hwl : w ≤ 64) (hc : cols ≤ w) :
    TV.pu 68 [.one (cUm m), cI .i64 cols] = some (.tup [(false, [cUm (clrTo PP invF (m.map redR) cols).1]), (false, [.arr ((clrTo PP invF (m.map redR) cols).2.map fun (n : Nat) => cInt (n : Int))])]) := by
  refine run68 (by simp) ?_
  simp [Tryz.f68, cUm, cUr]
  obtain ⟨I, hI⟩ : ∃ I : Nat → St → Prop, ∀ k s', I k s' ↔ (∃ e H L i, s' = ⟨e, H⟩ ∧ e 0 = .one (.c (cUm m)) ∧ e 1 = vI .i64 cols ∧ e 6 = .one (.sl 2 0 i i) ∧ e 22 = .one (.c (cUm m)) ∧ e 23 = vI .i64 m.length ∧ e 24 = vI .i64 (i : Nat) ∧ (MH H L) ∧ (i + k = m.length) ∧ (L.map (·.2) = (m.take i).map redR)) := ⟨_, fun _ _ => Iff.rfl⟩
  refine wpL_ind I ?_ m.length _ ((hI _ _).2 ⟨_, [.clo [] false, .clo [] false, .clo [] false], [], 0, (by first | rfl | (simp [cUm, cUr]; done) | (simp [cUm, cUr]; rfl) | (simp [cUm, cUr]; and_intros <;> rfl)), by simp [cUm, cUr], by simp, by simp, by simp [cUm, cUr], by simp, by simp, ⟨rfl, by simp, by simp⟩, by omega, by simp⟩)
  intro k stI hstI
  obtain ⟨e, H, L, i, rfl, e0, e1, e6, e22, e23, e24, hH, hi, hL⟩ := (hI _ _).1 hstI
  by_cases c : i < m.length
  · have hx : m[i]? = some m[i] := List.getElem?_eq_getElem c
    obtain ⟨r, hr⟩ : ∃ r, m[i] = r := ⟨_, rfl⟩
    have hmem : r ∈ m := hr ▸ List.getElem_mem c
    have hrw := hw r hmem
    have hrn := hn r hmem
    rw [hr] at hx
    have hms := fun nid => mk_row (nid := nid) (n := r.length) (by omega)
    simp [e22, e23, e24, cUm, cUr, c, hr, hms]
    obtain ⟨J, hJ⟩ : ∃ J : Nat → St → Prop, ∀ q s', J q s' ↔ (∃ e j, s' = ⟨e, H ++ [rowE (mixR (List.replicate r.length 0) (redR r) j)]⟩ ∧ e 0 = .one (.c (cUm m)) ∧ e 1 = vI .i64 cols ∧ e 6 = .one (.sl 2 0 i i) ∧ e 9 = .one (.sl H.length 0 r.length r.length) ∧ e 22 = .one (.c (cUm m)) ∧ e 23 = vI .i64 m.length ∧ e 24 = vI .i64 (i : Nat) ∧ e 31 = .one (.c (cUr r)) ∧ e 32 = vI .i64 r.length ∧ e 33 = vI .i64 (j : Nat) ∧ (j + q = r.length)) := ⟨_, fun _ _ => Iff.rfl⟩
    refine wpL_ind J ?_ r.length _ ((hJ _ _).2 ⟨_, 0, (by first | rfl | (simp [rowE, mixR_zero, cU]; done) | (simp [rowE, mixR_zero, cU]; rfl) | (simp [e0, e1, e6, e22, e23, e24, cUm, cUr, rowE, mixR_zero, cU]; and_intros <;> rfl)), by simp [e0, cUm, cUr], by simp [e1], by simp [e6], by simp, by simp [e22, cUm, cUr], by simp [e23], by simp [e24], by simp [cUr], by simp, by simp, by omega⟩)
    clear e0 e1 e6 e22 e23 e24
    intro q stJ hstJ
    obtain ⟨e, j, rfl, e0, e1, e6, e9, e22, e23, e24, e31, e32, e33, hj⟩ := (hJ _ _).1 hstJ
    by_cases cj : j < r.length
    · have hxj : r[j]? = some r[j] := List.getElem?_eq_getElem cj
      have hO := field_Of (hrn _ (List.getElem_mem cj)).1 (hrn _ (List.getElem_mem cj)).2
      have w_j : IntKind.i64.wrap ((j : Int) + 1) = ((j + 1 : Nat) : Int) := by rw [w64_id (by omega) (by omega)]; omega
      have hst := st_row (H := H ++ [rowE (mixR (List.replicate r.length 0) (redR r) j)]) (nest := true) (id := H.length) (j := j) (n := r.length) (v := r[j] % 2305843009213693951) (r := mixR (List.replicate r.length 0) (redR r) j) (by simp) (by simpa [mixR_len] using cj) (by simp [mixR_len])
      have hset : (mixR (List.replicate r.length 0) (redR r) j).set j (r[j] % 2305843009213693951) = mixR (List.replicate r.length 0) (redR r) (j + 1) := by
        rw [← mixR_set (by simpa using cj) (by simp [redR])]
        simp [redR]
      rw [hset] at hst
      simp only [rowE] at hst
      have hlm : (mixR (List.replicate r.length 0) (redR r) j).length = r.length := by simp [mixR_len]
      simp [e6, e9, e31, e32, e33, cUr, rowE, cj, hO, hlm, cU, hst]
      exact ⟨(q - 1), by omega, (hJ _ _).2 ⟨_, j + 1, (by first | rfl | (simp [e0, e1, e6, e9, e22, e23, e24, e31, e32, cUm, cUr, rowE, w_j]; done) | (simp [e0, e1, e6, e9, e22, e23, e24, e31, e32, cUm, cUr, rowE, w_j]; rfl) | (simp [e0, e1, e6, e9, e22, e23, e24, e31, e32, cUm, cUr, rowE, w_j]; and_intros <;> rfl)), by simp [e0, cUm, cUr, w_j], by simp [e1, w_j], by simp [e6, w_j], by simp [e9, w_j], by simp [e22, cUm, cUr, w_j], by simp [e23, w_j], by simp [e24, w_j], by simp [e31, cUr, w_j], by simp [e32, w_j], by simp [w_j], by omega⟩⟩
    · have hLl : L.length = i := by
        have := congrArg List.length hL
        simpa [Nat.min_eq_left (Nat.le_of_lt c)] using this
      have hmx : mixR (List.replicate r.length 0) (redR r) j = redR r := mixR_all (by simp [redR]) (by simp; omega)
      have hrl : (redR r).length = r.length := by simp [redR]
      have ha := vappendO_own (P := Tryz.prog) (H := H ++ [rowE (redR r), .opn [[.sl H.length 0 r.length r.length]] false]) (t := 56) (id := 2) (n := i) (k := H.length + 1) (c := .sl H.length 0 r.length r.length) (l := L.map rowC) es56 el57
        (hH.app _).opn (by simp) (by simpa using hLl) (by intro e he; obtain ⟨y, -, rfl⟩ := List.mem_map.1 he; rfl) (by omega) (by omega)
      have cj' : ¬ (j : Int) < r.length := by omega
      have w_i : IntKind.i64.wrap ((i : Int) + 1) = ((i + 1 : Nat) : Int) := by rw [w64_id (by omega) (by omega)]; omega
      simp only [rowE] at ha
      simp [e6, e9, e24, e31, e32, e33, cUr, rowE, cj', hmx, vbuildO_m es56 el57, cellsOf?, ha]
      have hM := (hH.app [rowE (redR r), .opn [[.sl H.length 0 r.length r.length]] false]).push (id := H.length) (r := redR r) (by have := hH.lt2; omega) (fun k hk => by have := hH.lt hk; omega) (by simp)
      rw [hrl] at hM
      have hL2 : (L ++ [(H.length, redR r)]).map (·.2) = (m.take (i + 1)).map redR := by
        rw [List.map_append, hL, List.take_add_one, hx, List.map_append]
        rfl
      exact ⟨(k - 1), by omega, (hI _ _).2 ⟨_, _, L ++ [(H.length, redR r)], i + 1, (by first | rfl | (simp [e0, e1, e22, e23, w_i]; done) | (simp [e0, e1, e22, e23, w_i]; rfl) | (simp [e0, e1, e22, e23, w_i]; and_intros <;> rfl)), by simp [e0, w_i], by simp [e1, w_i], by simp [w_i], by simp [e22, w_i], by simp [e23, w_i], by simp [w_i], hM, by omega, hL2⟩⟩
  · have him : i = m.length := by omega
    subst him
    have hLl : L.length = m.length := by
      have := congrArg List.length hL
      simpa using this
    rw [List.take_length] at hL
    obtain ⟨M, hMd⟩ : ∃ M, m.map redR = M := ⟨_, rfl⟩
    rw [hMd] at hL ⊢
    have hm0 : 0 < m.length := List.length_pos_iff.2 h0
    have hMw : ∀ r ∈ M, r.length = w := by
      subst hMd
      intro r hr
      obtain ⟨x, hx, rfl⟩ := List.mem_map.1 hr
      simp [redR, hw x hx]
    have hMr : ∀ r, r < M.length → ∀ j, 0 ≤ at0 (row M r) j ∧ at0 (row M r) j < PP := by
      subst hMd
      intro r hr j
      have hr' : r < m.length := by simpa using hr
      rw [row_eq hr]
      simp only [List.getElem_map, redR, at0, List.getD_eq_getElem?_getD, List.getElem?_map]
      cases (m[r])[j]? with
      | none => simp [PP]
      | some v => simp only [Option.map_some, Option.getD_some]; exact ⟨by omega, by show _ < (2305843009213693951 : Int); omega⟩
    simp [e22, e23, e24, cUm, cUr]
    obtain ⟨O, hO⟩ : ∃ O : Nat → St → Prop, ∀ k s', O k s' ↔ (∃ e H L d a c, s' = ⟨e, H⟩ ∧ e 1 = vI .i64 cols ∧ e 6 = .one (.sl 2 0 m.length m.length) ∧ e 12 = .one (.sl d 0 a.length a.length) ∧ e 13 = vI .i64 (c : Nat) ∧ (CH H L d a) ∧ (c + k = cols) ∧ (L.length = m.length) ∧ (clrTo PP invF M c = (rws L, a))) := ⟨_, fun _ _ => Iff.rfl⟩
    refine wpL_ind O ?_ cols _ ((hO _ _).2 ⟨_, _, L, H.length, [], 0, (by first | rfl | (simp [e1, e6]; done) | (simp [e1, e6]; rfl) | (simp [e1, e6]; and_intros <;> rfl)), by simp [e1], by simp [e6], by simp, by simp, ⟨hH.app _, by simp, by have := hH.lt2; omega, fun k hk => by have := hH.lt hk; omega⟩, by omega, hLl, by rw [← hL]; rfl⟩)
    intro k stO hstO
    obtain ⟨e, H, L, d, a, c, rfl, e1, e6, e12, e13, hH, hc1, hLl, hst⟩ := (hO _ _).1 hstO
    have hE : Ech PP (rws L) w c a := by
      have := (clr_inv (p := PP) inv_ok hMw hMr c).1
      rwa [hst] at this
    have hcw : ∀ k (h : k < L.length), L[k].2.length = w := fun k h => hE.len _ (by rw [← rws_row h]; exact row_mem (by rw [rws_len]; exact h))
    have hale : a.length ≤ m.length := by have := hE.le; rw [rws_len] at this; omega
    have hTop := hH.mh.top' (by omega)
    have hAt := hH.at'
    by_cases hcc : c < cols
    · by_cases hak : a.length < m.length
      · have hcc' : (c : Int) < cols := by omega
        have hak' : (a.length : Int) < m.length := by omega
        simp [e1, e6, e12, e13, hcc, hak, hTop, hAt, hLl]
        obtain ⟨P, hP⟩ : ∃ P : Nat → St → Prop, ∀ q s', P q s' ↔ (∃ e p, s' = ⟨e, H⟩ ∧ e 1 = vI .i64 cols ∧ e 6 = .one (.sl 2 0 m.length m.length) ∧ e 12 = .one (.sl d 0 a.length a.length) ∧ e 13 = vI .i64 (c : Nat) ∧ e 14 = vI .i64 a.length ∧ e 15 = vI .i64 (p : Nat) ∧ (p + q = m.length) ∧ (a.length ≤ p) ∧ (∀ j, a.length ≤ j → j < p → at0 (row (rws L) j) c = 0)) := ⟨_, fun _ _ => Iff.rfl⟩
        refine wpL_ind P ?_ (m.length - a.length) _ ((hP _ _).2 ⟨_, a.length, (by first | rfl | (simp [e1, e6, e12, e13, lenIs, hTop, hAt, hLl]; done) | (simp [e1, e6, e12, e13, lenIs, hTop, hAt, hLl]; rfl) | (simp [e1, e6, e12, e13, lenIs, hTop, hAt, hLl]; and_intros <;> rfl)), by simp [e1], by simp [e6], by simp [e12], by simp [e13], by simp, by simp, by omega, by omega, fun j h1 h2 => by omega⟩)
        clear e1 e6 e12 e13
        intro q stP hstP
        obtain ⟨e, p, rfl, e1, e6, e12, e13, e14, e15, hp1, hp2, hp3⟩ := (hP _ _).1 hstP
        by_cases cp : p < m.length
        · have hpL : p < L.length := by omega
          have hrp := hH.mh.rows p hpL
          have hwp := hcw p hpL
          have hLp : L[p]? = some L[p] := List.getElem?_eq_getElem hpL
          have hrr := rws_row hpL
          obtain ⟨x, hx⟩ : ∃ x, L[p] = x := ⟨_, rfl⟩
          rw [hx] at hrp hwp hLp hrr
          simp only [rowE] at hrp
          have hcx : c < x.2.length := by omega
          have hv : at0 (row (rws L) p) c = x.2[c] := by rw [hrr, at0_get hcx]
          have hxc : x.2[c]? = some x.2[c] := List.getElem?_eq_getElem hcx
          have cp' : (p : Int) < m.length := by omega
          by_cases hz : x.2[c] = 0
          · have w_p : IntKind.i64.wrap ((p : Int) + 1) = ((p + 1 : Nat) : Int) := by rw [w64_id (by omega) (by omega)]; omega
            simp [e6, e13, e14, e15, cp', hTop, hLl, hLp, rowC, hrp, hxc, hz, cU]
            refine ⟨cp, hcx, ?_⟩
            refine ⟨(q - 1), by omega, (hP _ _).2 ⟨_, p + 1, (by first | rfl | (simp [e1, e6, e12, e13, e14, w_p]; done) | (simp [e1, e6, e12, e13, e14, w_p]; rfl) | (simp [e1, e6, e12, e13, e14, w_p]; and_intros <;> rfl)), by simp [e1, w_p], by simp [e6, w_p], by simp [e12, w_p], by simp [e13, w_p], by simp [e14, w_p], by simp [w_p], by omega, by omega, ?_⟩⟩
            intro j h1 h2
            by_cases ej : j = p
            · rw [ej, hv, hz]
            · exact hp3 j h1 (by omega)
          · have cpe : ¬ (p : Int) = m.length := by omega
            have hpv : pvt (rws L) c a.length = some p := pvt_is hp2 (by rw [rws_len]; omega) (by rw [hv]; exact hz) hp3
            simp [e6, e13, e14, e15, cp', hTop, hLl, hLp, rowC, hrp, hxc, hz, cU, cpe]
            refine ⟨cp, hcx, ?_⟩
            have hkL : a.length < L.length := by omega
            obtain ⟨H1, H2, l1, c1, ⟨hq1, hq2, hq3⟩, hs1, hs2, hH2⟩ := hH.swp hkL hpL hLl
            have hLk : L[a.length]? = some L[a.length] := List.getElem?_eq_getElem hkL
            have hg2 : ∀ j (h : j < (swpL L a.length p hkL hpL).length) (h' : j < L.length), (swpL L a.length p hkL hpL)[j] = if p = j then L[a.length] else if a.length = j then L[p] else L[j] := fun j h h' => swpL_get hkL hpL j h h'
            have hl2 : (swpL L a.length p hkL hpL).length = L.length := by simp [swpL]
            have hw2 : rws (swpL L a.length p hkL hpL) = swp (rws L) a.length p := by
              have := rws_row hkL
              have := rws_row hpL
              simp only [swpL, rws, swp, List.map_set, rws] at *
              simp [*]
            obtain ⟨L2, hL2⟩ : ∃ L2, swpL L a.length p hkL hpL = L2 := ⟨_, rfl⟩
            obtain ⟨y, hy⟩ : ∃ y, L[a.length] = y := ⟨_, rfl⟩
            rw [hL2] at hH2 hw2
            simp only [hL2] at hg2 hl2
            rw [hy] at hs2 hLk
            rw [hx] at hs1
            have hkL2 : a.length < L2.length := by omega
            have hL2k : L2[a.length] = x := by
              rw [hg2 a.length hkL2 hkL, hx]
              by_cases e : p = a.length
              · rw [if_pos e, ← hx]; simp only [e]
              · rw [if_neg e, if_pos rfl]
            have hT2 := hH2.mh.top' (by omega)
            have hr2 := hH2.mh.rows a.length hkL2
            have hLk2 : L2[a.length]? = some x := by rw [List.getElem?_eq_getElem hkL2, hL2k]
            rw [hL2k] at hr2
            simp only [rowE] at hr2
            have hrd := hE.red p (by rw [rws_len]; omega) c
            rw [hv] at hrd
            have hInv := field_Inv hrd.1 hrd.2 hz
            obtain ⟨v, hvv⟩ : ∃ v, invF x.2[c] = v := ⟨_, rfl⟩
            rw [hvv] at hInv
            have hl2' : L2.length = m.length := by omega
            simp [e6, e13, e14, hLk, hTop, hLl, rowC, hs1, hs2, hT2, hLk2, hr2, hl2', hxc, cU, hInv, hq1, hq2, hq3]
            refine ⟨cp, hak, cp, hak, hcx, hak, ?_⟩
            have hvb : 0 ≤ v ∧ v < 2305843009213693951 := by
              rw [← hvv]
              exact ⟨Int.emod_nonneg _ (by decide), Int.emod_lt_of_pos _ (by decide)⟩
            have hxb : ∀ t (h : t < x.2.length), 0 ≤ x.2[t] ∧ x.2[t] < 2305843009213693951 := fun t h => by
              have := hE.red p (by rw [rws_len]; omega) t
              rw [hrr, at0_get h] at this
              exact this
            have hxl : x.2.length ≤ 64 := by omega
            obtain ⟨S, hS⟩ : ∃ S : Nat → St → Prop, ∀ q s', S q s' ↔ (∃ e H3 L3 i, s' = ⟨e, H3⟩ ∧ e 1 = vI .i64 cols ∧ e 6 = .one (.sl 2 0 m.length m.length) ∧ e 12 = .one (.sl d 0 a.length a.length) ∧ e 13 = vI .i64 (c : Nat) ∧ e 14 = vI .i64 a.length ∧ e 16 = vI .u64 v ∧ e 113 = vI .i64 x.2.length ∧ e 114 = vI .i64 (i : Nat) ∧ (CH H3 L3 d a) ∧ (L3 = L2.set a.length (x.1, mixR x.2 (scl PP v x.2) i)) ∧ (i + q = x.2.length)) := ⟨_, fun _ _ => Iff.rfl⟩
            refine wpL_ind S ?_ x.2.length _ ((hS _ _).2 ⟨_, H2, L2, 0, (by first | rfl | (simp [e1, e6, e12, e13, e14]; done) | (simp [e1, e6, e12, e13, e14]; rfl) | (simp [e1, e6, e12, e13, e14]; and_intros <;> rfl)), by simp [e1], by simp [e6], by simp [e12], by simp [e13], by simp [e14], by simp, by simp, by simp, hH2, by rw [mixR_zero, ← hL2k]; exact (List.set_getElem_self hkL2).symm, by omega⟩)
            clear e1 e6 e12 e13 e14 e15
            intro q stS hstS
            obtain ⟨e, H3, L3, i, rfl, e1, e6, e12, e13, e14, e16, e113, e114, hH3, hL3, si⟩ := (hS _ _).1 hstS
            have hkL3 : a.length < L3.length := by rw [hL3, List.length_set]; exact hkL2
            have hL3k : L3[a.length] = (x.1, mixR x.2 (scl PP v x.2) i) := by
              subst hL3
              simp
            have hT3 := hH3.mh.top' (by omega)
            have hl3 : L3.length = m.length := by rw [hL3, List.length_set]; exact hl2'
            have hLk3 : L3[a.length]? = some (x.1, mixR x.2 (scl PP v x.2) i) := by rw [List.getElem?_eq_getElem hkL3, hL3k]
            have hr3 := hH3.mh.rows a.length hkL3
            rw [hL3k] at hr3
            by_cases ci : i < x.2.length
            · have ci' : (i : Int) < x.2.length := by omega
              have hxi : (mixR x.2 (scl PP v x.2) i)[i]? = some x.2[i] := mixR_get ci (Nat.le_refl _)
              have hMu := field_Mul (hxb i ci).1 (by have := (hxb i ci).2; omega) hvb.1 (by omega)
              have hsl : (scl PP v x.2).length = x.2.length := scl_len ..
              have hs3 := st_row (nest := true) (j := i) (n := x.2.length) (v := x.2[i] * v % 2305843009213693951) hr3 (by rw [mixR_len]; exact ci) (mixR_len ..)
              have hset : (mixR x.2 (scl PP v x.2) i).set i (x.2[i] * v % 2305843009213693951) = mixR x.2 (scl PP v x.2) (i + 1) := by
                rw [← mixR_set ci hsl.symm]
                simp [scl]
              rw [hset] at hs3
              have hN := hH3.row hkL3 (r := mixR x.2 (scl PP v x.2) (i + 1)) (by rw [hL3k]; simp [mixR_len])
              rw [hL3k] at hN
              have hN2 : L3.set a.length (x.1, mixR x.2 (scl PP v x.2) (i + 1)) = L2.set a.length (x.1, mixR x.2 (scl PP v x.2) (i + 1)) := by rw [hL3, List.set_set]
              obtain ⟨H4, hH4⟩ : ∃ H4, H3.set x.1 (rowE (mixR x.2 (scl PP v x.2) (i + 1))) = H4 := ⟨_, rfl⟩
              rw [hH4] at hN hs3
              simp only [rowE] at hr3
              have hml : (mixR x.2 (scl PP v x.2) i).length = x.2.length := mixR_len ..
              have w_i : IntKind.i64.wrap ((i : Int) + 1) = ((i + 1 : Nat) : Int) := by rw [w64_id (by omega) (by omega)]; omega
              simp [e6, e14, e16, e113, e114, ci', hT3, hLk3, hl3, hr3, rowC, hxi, hml, hMu, hs3, cU]
              refine ⟨hak, ci, ?_⟩
              exact ⟨(q - 1), by omega, (hS _ _).2 ⟨_, H4, _, i + 1, (by first | rfl | (simp [e1, e6, e12, e13, e14, e16, e113, w_i]; done) | (simp [e1, e6, e12, e13, e14, e16, e113, w_i]; rfl) | (simp [e1, e6, e12, e13, e14, e16, e113, w_i]; and_intros <;> rfl)), by simp [e1, w_i], by simp [e6, w_i], by simp [e12, w_i], by simp [e13, w_i], by simp [e14, w_i], by simp [e16, w_i], by simp [e113, w_i], by simp [w_i], hN, hN2, by omega⟩⟩
            · have ci' : ¬ (i : Int) < x.2.length := by omega
              obtain ⟨b, hb⟩ : ∃ b, scl PP v x.2 = b := ⟨_, rfl⟩
              have hbl : b.length = x.2.length := by rw [← hb]; exact scl_len ..
              rw [hb, mixR_all hbl.symm (by omega)] at hL3 hL3k hLk3 hr3
              have hrw3 : rws L3 = (swp (rws L) a.length p).set a.length b := by
                rw [hL3, ← hw2]
                simp [rws, List.map_set]
              have hbb : ∀ t (h : t < b.length), 0 ≤ b[t] ∧ b[t] < 2305843009213693951 := fun t h => by
                subst hb
                simp only [scl, List.getElem_map]
                exact ⟨Int.emod_nonneg _ (by decide), Int.emod_lt_of_pos _ (by decide)⟩
              simp [e6, e14, e113, e114, ci', hT3, hl3]
              obtain ⟨RR, hRR⟩ : ∃ RR : Nat → St → Prop, ∀ q s', RR q s' ↔ (∃ e H4 L4 t, s' = ⟨e, H4⟩ ∧ e 1 = vI .i64 cols ∧ e 6 = .one (.sl 2 0 m.length m.length) ∧ e 12 = .one (.sl d 0 a.length a.length) ∧ e 13 = vI .i64 (c : Nat) ∧ e 14 = vI .i64 a.length ∧ e 134 = vI .i64 m.length ∧ e 135 = vI .i64 (t : Nat) ∧ (CH H4 L4 d a) ∧ (L4 = clrL b c a.length L3 t) ∧ (t + q = m.length)) := ⟨_, fun _ _ => Iff.rfl⟩
              refine wpL_ind RR ?_ m.length _ ((hRR _ _).2 ⟨_, H3, L3, 0, (by first | rfl | (simp [e1, e6, e12, e13, e14]; done) | (simp [e1, e6, e12, e13, e14]; rfl) | (simp [e1, e6, e12, e13, e14]; and_intros <;> rfl)), by simp [e1], by simp [e6], by simp [e12], by simp [e13], by simp [e14], by simp, by simp, hH3, (clrL_zero ..).symm, by omega⟩)
              clear e1 e6 e12 e13 e14 e16 e113 e114
              intro q stRR hstRR
              obtain ⟨e, H4, L4, t, rfl, e1, e6, e12, e13, e14, e134, e135, hH4, hL4, st⟩ := (hRR _ _).1 hstRR
              have hl4 : L4.length = m.length := by rw [hL4, clrL_len]; exact hl3
              have hT4 := hH4.mh.top' (by omega)
              have hkL4 : a.length < L4.length := by omega
              have hL4k : L4[a.length] = (x.1, b) := by
                subst hL4
                rw [clrL_get hkL4 hkL3, if_neg (by omega), hL3k]
              have hLk4 : L4[a.length]? = some (x.1, b) := by rw [List.getElem?_eq_getElem hkL4, hL4k]
              have hrk4 := hH4.mh.rows a.length hkL4
              rw [hL4k] at hrk4
              by_cases ct : t < m.length
              · have ct' : (t : Int) < m.length := by omega
                have htL3 : t < L3.length := by omega
                have w_t : IntKind.i64.wrap ((t : Int) + 1) = ((t + 1 : Nat) : Int) := by rw [w64_id (by omega) (by omega)]; omega
                by_cases ek : t = a.length
                · subst ek
                  simp [e6, e12, e13, e14, e134, e135, ct']
                  exact ⟨(q - 1), by omega, (hRR _ _).2 ⟨_, H4, L4, a.length + 1, (by first | rfl | (simp [e1, e6, e12, e13, e14, e134, w_t]; done) | (simp [e1, e6, e12, e13, e14, e134, w_t]; rfl) | (simp [e1, e6, e12, e13, e14, e134, w_t]; and_intros <;> rfl)), by simp [e1, w_t], by simp [e6, w_t], by simp [e12, w_t], by simp [e13, w_t], by simp [e14, w_t], by simp [e134, w_t], by simp [w_t], hH4, by rw [hL4, clrL_k], by omega⟩⟩
                · have ek' : ¬ (t : Int) = a.length := by omega
                  have htL4 : t < L4.length := by omega
                  have hL4t : L4[t] = L3[t] := by
                    subst hL4
                    rw [clrL_get htL4 htL3, if_neg (by omega)]
                  obtain ⟨y, hy⟩ : ∃ y, L3[t] = y := ⟨_, rfl⟩
                  rw [hy] at hL4t
                  have hLt4 : L4[t]? = some y := by rw [List.getElem?_eq_getElem htL4, hL4t]
                  have hrt4 := hH4.mh.rows t htL4
                  rw [hL4t] at hrt4
                  have hyk : y.1 ≠ x.1 := fun e => ek (hH4.mh.inj htL4 hkL4 (by rw [hL4t, hL4k]; exact e))
                  have hcs := clrL_succ (b := b) (c := c) (L := L3) ek htL3
                  rw [← hL4, hy] at hcs
                  have hyr := rws_row htL3
                  rw [hy] at hyr
                  have hyo : ∃ z, z < (rws L).length ∧ y.2 = row (rws L) z := by
                    rw [← hyr, hrw3]
                    have h1 : t < (swp (rws L) a.length p).length := by rw [swp_len, rws_len]; omega
                    have h2 : row ((swp (rws L) a.length p).set a.length b) t = row (swp (rws L) a.length p) t := by
                      rw [row_eq (by simpa using h1), row_eq h1, List.getElem_set_ne (fun e => ek e.symm)]
                    have h3 : row (swp (rws L) a.length p) t ∈ rws L := (swp_mem (by rw [rws_len]; omega) (by rw [rws_len]; omega) _).1 (row_mem h1)
                    obtain ⟨z, hz1, hz2⟩ := mem_row h3
                    exact ⟨z, hz1, by rw [h2, hz2]⟩
                  obtain ⟨z, hz1, hz2⟩ := hyo
                  have hyl : y.2.length = x.2.length := by
                    rw [hz2, hE.len _ (row_mem hz1), hwp]
                  have hyb : ∀ t (h : t < y.2.length), 0 ≤ y.2[t] ∧ y.2[t] < 2305843009213693951 := fun t h => by
                    have := hE.red z hz1 t
                    rw [← hz2, at0_get h] at this
                    exact this
                  have hcy : c < y.2.length := by omega
                  have hyc : y.2[c]? = some y.2[c] := List.getElem?_eq_getElem hcy
                  rw [at0_get hcy] at hcs
                  by_cases hf : y.2[c] = 0
                  · have hS2 : L4 = clrL b c a.length L3 (t + 1) := by
                      rw [hcs, hf, elm_zero (by omega) hyb]
                      have : (y.1, y.2) = L4[t] := hL4t.symm
                      rw [this, List.set_getElem_self]
                    simp only [rowE] at hrt4
                    simp [e6, e12, e13, e14, e134, e135, ct', ek', hT4, hl4, hLt4, rowC, hrt4, hyc, hf, cU]
                    refine ⟨ct, hcy, ?_⟩
                    exact ⟨(q - 1), by omega, (hRR _ _).2 ⟨_, H4, L4, t + 1, (by first | rfl | (simp [e1, e6, e12, e13, e14, e134, w_t]; done) | (simp [e1, e6, e12, e13, e14, e134, w_t]; rfl) | (simp [e1, e6, e12, e13, e14, e134, w_t]; and_intros <;> rfl)), by simp [e1, w_t], by simp [e6, w_t], by simp [e12, w_t], by simp [e13, w_t], by simp [e14, w_t], by simp [e134, w_t], by simp [w_t], hH4, hS2, by omega⟩⟩
                  · have hfb := hyb c hcy
                    obtain ⟨f, hff⟩ : ∃ f, y.2[c] = f := ⟨_, rfl⟩
                    rw [hff] at hfb hf hcs hyc
                    simp only [rowE] at hrt4
                    simp [e6, e12, e13, e14, e134, e135, ct', ek', hT4, hl4, hLt4, rowC, hrt4, hyc, hf, cU]
                    refine ⟨ct, hcy, ct, hcy, ct, ?_⟩
                    have hyl64 : y.2.length ≤ 64 := by omega
                    have hel : (elm PP f b y.2).length = y.2.length := elm_len PP f (by omega)
                    obtain ⟨FF, hFF⟩ : ∃ FF : Nat → St → Prop, ∀ u s', FF u s' ↔ (∃ e H5 L5 i, s' = ⟨e, H5⟩ ∧ e 1 = vI .i64 cols ∧ e 6 = .one (.sl 2 0 m.length m.length) ∧ e 12 = .one (.sl d 0 a.length a.length) ∧ e 13 = vI .i64 (c : Nat) ∧ e 14 = vI .i64 a.length ∧ e 134 = vI .i64 m.length ∧ e 135 = vI .i64 (t : Nat) ∧ e 19 = vI .i64 (t : Nat) ∧ e 20 = vI .u64 f ∧ e 162 = vI .i64 y.2.length ∧ e 163 = vI .i64 (i : Nat) ∧ (CH H5 L5 d a) ∧ (L5 = L4.set t (y.1, mixR y.2 (elm PP f b y.2) i)) ∧ (i + u = y.2.length)) := ⟨_, fun _ _ => Iff.rfl⟩
                    refine wpL_ind FF ?_ y.2.length _ ((hFF _ _).2 ⟨_, H4, L4, 0, (by first | rfl | (simp [e1, e6, e12, e13, e14, e134, e135]; done) | (simp [e1, e6, e12, e13, e14, e134, e135]; rfl) | (simp [e1, e6, e12, e13, e14, e134, e135]; and_intros <;> rfl)), by simp [e1], by simp [e6], by simp [e12], by simp [e13], by simp [e14], by simp [e134], by simp [e135], by simp, by simp, by simp, by simp, hH4, by rw [mixR_zero]; exact (by rw [show (y.1, y.2) = L4[t] from hL4t.symm, List.set_getElem_self]), by omega⟩)
                    clear e1 e6 e12 e13 e14 e134 e135
                    intro u stFF hstFF
                    obtain ⟨e, H5, L5, i, rfl, e1, e6, e12, e13, e14, e134, e135, e19, e20, e162, e163, hH5, hL5, su⟩ := (hFF _ _).1 hstFF
                    have hl5 : L5.length = m.length := by rw [hL5, List.length_set]; exact hl4
                    have htL5 : t < L5.length := by omega
                    have hkL5 : a.length < L5.length := by omega
                    have hL5t : L5[t] = (y.1, mixR y.2 (elm PP f b y.2) i) := by subst hL5; simp
                    have hL5k : L5[a.length] = (x.1, b) := by
                      subst hL5
                      rw [List.getElem_set_ne ek, hL4k]
                    have hT5 := hH5.mh.top' (by omega)
                    have hLt5 : L5[t]? = some (y.1, mixR y.2 (elm PP f b y.2) i) := by rw [List.getElem?_eq_getElem htL5, hL5t]
                    have hLk5 : L5[a.length]? = some (x.1, b) := by rw [List.getElem?_eq_getElem hkL5, hL5k]
                    have hrt5 := hH5.mh.rows t htL5
                    rw [hL5t] at hrt5
                    have hrk5 := hH5.mh.rows a.length hkL5
                    rw [hL5k] at hrk5
                    by_cases ci5 : i < y.2.length
                    · have ci5' : (i : Int) < y.2.length := by omega
                      have hib : i < b.length := by omega
                      have hyi : (mixR y.2 (elm PP f b y.2) i)[i]? = some y.2[i] := mixR_get ci5 (Nat.le_refl _)
                      have hbi : b[i]? = some b[i] := List.getElem?_eq_getElem hib
                      have hMu := field_Mul hfb.1 (by omega) (hbb i hib).1 (by have := (hbb i hib).2; omega)
                      have hSu := field_Sub (hyb i ci5).1 (by have := (hyb i ci5).2; omega) (b := f * b[i] % 2305843009213693951) (by omega) (by omega)
                      have hs5 := st_row (nest := true) (j := i) (n := y.2.length) (v := (y.2[i] - f * b[i] % 2305843009213693951) % 2305843009213693951) hrt5 (by rw [mixR_len]; exact ci5) (mixR_len ..)
                      have hset : (mixR y.2 (elm PP f b y.2) i).set i ((y.2[i] - f * b[i] % 2305843009213693951) % 2305843009213693951) = mixR y.2 (elm PP f b y.2) (i + 1) := by
                        rw [← mixR_set ci5 hel.symm]
                        simp [elm]
                      rw [hset] at hs5
                      have hN := hH5.row htL5 (r := mixR y.2 (elm PP f b y.2) (i + 1)) (by rw [hL5t]; simp [mixR_len])
                      rw [hL5t] at hN
                      have hN2 : L5.set t (y.1, mixR y.2 (elm PP f b y.2) (i + 1)) = L4.set t (y.1, mixR y.2 (elm PP f b y.2) (i + 1)) := by rw [hL5, List.set_set]
                      obtain ⟨H6, hH6⟩ : ∃ H6, H5.set y.1 (rowE (mixR y.2 (elm PP f b y.2) (i + 1))) = H6 := ⟨_, rfl⟩
                      rw [hH6] at hN hs5
                      obtain ⟨g, hg⟩ : ∃ g, f * b[i] % 2305843009213693951 = g := ⟨_, rfl⟩
                      rw [hg] at hMu hSu hs5
                      simp only [rowE] at hrt5 hrk5
                      have hml : (mixR y.2 (elm PP f b y.2) i).length = y.2.length := mixR_len ..
                      have w_i : IntKind.i64.wrap ((i : Int) + 1) = ((i + 1 : Nat) : Int) := by rw [w64_id (by omega) (by omega)]; omega
                      simp [e6, e14, e19, e20, e135, e162, e163, ci5', hT5, hLt5, hLk5, hl5, hrt5, hrk5, rowC, hyi, hbi, hml, hMu, hSu, hs5, cU]
                      refine ⟨ct, ci5, hak, hib, ci5, ?_⟩
                      exact ⟨(u - 1), by omega, (hFF _ _).2 ⟨_, H6, _, i + 1, (by first | rfl | (simp [e1, e6, e12, e13, e14, e19, e20, e134, e135, e162, w_i]; done) | (simp [e1, e6, e12, e13, e14, e19, e20, e134, e135, e162, w_i]; rfl) | (simp [e1, e6, e12, e13, e14, e19, e20, e134, e135, e162, w_i]; and_intros <;> rfl)), by simp [e1, w_i], by simp [e6, w_i], by simp [e12, w_i], by simp [e13, w_i], by simp [e14, w_i], by simp [e134, w_i], by simp [e135, w_i], by simp [e19, w_i], by simp [e20, w_i], by simp [e162, w_i], by simp [w_i], hN, hN2, by omega⟩⟩
                    · have ci5' : ¬ (i : Int) < y.2.length := by omega
                      rw [mixR_all hel.symm (by omega), ← hcs] at hL5
                      simp [e6, e135, e162, e163, ci5']
                      exact ⟨(q - 1), by omega, (hRR _ _).2 ⟨_, H5, L5, t + 1, (by first | rfl | (simp [e1, e6, e12, e13, e14, e134, w_t]; done) | (simp [e1, e6, e12, e13, e14, e134, w_t]; rfl) | (simp [e1, e6, e12, e13, e14, e134, w_t]; and_intros <;> rfl)), by simp [e1, w_t], by simp [e6, w_t], by simp [e12, w_t], by simp [e13, w_t], by simp [e14, w_t], by simp [e134, w_t], by simp [w_t], hH5, hL5, by omega⟩⟩
              · have ct' : ¬ (t : Int) < m.length := by omega
                obtain ⟨H5, ha5, hH5⟩ := hH4.push (by omega) c
                have hst5 : clrTo PP invF M (c + 1) = (rws L4, a ++ [c]) := by
                  rw [clrTo_succ, hst, clrS, hpv]
                  dsimp only
                  rw [stp, bas, hrr, at0_get hcx, hvv, hb, hL4, clrL_rws hrw3 (by omega)]
                have w_c : IntKind.i64.wrap ((c : Int) + 1) = ((c + 1 : Nat) : Int) := by rw [w64_id (by omega) (by omega)]; omega
                simp [e6, e12, e13, e14, e134, e135, ct', cellsOf?, vbuildSlice_eq es121 el3, fzParts, setAll, rchParts, rch, ha5]
                exact ⟨(k - 1), by omega, (hO _ _).2 ⟨_, H5, L4, d, a ++ [c], c + 1, (by first | rfl | (simp [e1, e6, w_c]; done) | (simp [e1, e6, w_c]; rfl) | (simp [e1, e6, w_c]; and_intros <;> rfl)), by simp [e1, w_c], by simp [e6, w_c], by simp [w_c], by simp [w_c], hH5, by omega, hl4, hst5⟩⟩
        · have hpm : p = m.length := by omega
          have cp' : ¬ (p : Int) < m.length := by omega
          simp [e6, e13, e14, e15, hpm, hTop, hLl]
          have w_c : IntKind.i64.wrap ((c : Int) + 1) = ((c + 1 : Nat) : Int) := by rw [w64_id (by omega) (by omega)]; omega
          have hpn : pvt (rws L) c a.length = none := pvt_no fun j h1 h2 => hp3 j h1 (by rw [rws_len] at h2; omega)
          exact ⟨(k - 1), by omega, (hO _ _).2 ⟨_, H, L, d, a, c + 1, (by first | rfl | (simp [e1, e6, e12, w_c]; done) | (simp [e1, e6, e12, w_c]; rfl) | (simp [e1, e6, e12, w_c]; and_intros <;> rfl)), by simp [e1, w_c], by simp [e6, w_c], by simp [e12, w_c], by simp [w_c], hH, by omega, hLl, by rw [clrTo_succ, hst, clrS, hpn]⟩⟩
      · have hcc' : (c : Int) < cols := by omega
        have hak' : ¬ (a.length : Int) < m.length := by omega
        have hst6 : clrTo PP invF M cols = (rws L, a) := by
          have : ∀ n, clrTo PP invF M (c + n) = (rws L, a) := fun n => by
            induction n with
            | zero => exact hst
            | succ n ih =>
              have hno : pvt (rws L) (c + n) a.length = none := pvt_no (by intro j h1 h2; rw [rws_len] at h2; omega)
              rw [← Nat.add_assoc, clrTo_succ, ih]
              simp only [clrS, hno]
          rw [show cols = c + (cols - c) by omega]
          exact this _
        have hf1 := hH.fz1 (n := m.length) (by omega) (by omega)
        have hf2 := hH.fz2
        rw [hst6]
        simp [-fzc, e1, e6, e12, e13, hcc', hak', hTop, hAt, hLl, hf1, hf2]
        rfl
    · have hcc' : ¬ (c : Int) < cols := by omega
      have hst6 : clrTo PP invF M cols = (rws L, a) := by rw [show cols = c by omega]; exact hst
      have hf1 := hH.fz1 (n := m.length) (by omega) (by omega)
      have hf2 := hH.fz2
      rw [hst6]
      simp [-fzc, e1, e6, e12, e13, hcc', hf1, hf2]
      rfl
end Go.Proofs.YtmgnmnogiajlgaaGreatF
end

section
/- Solve: one solution. -/
set_option maxRecDepth 8192
set_option maxHeartbeats 2000000
namespace Go.Proofs.YtmgnmnogiajlgaaGreatF
open Go Go.Proofs.Vm Go.Proofs.Vm.Fld

theorem u64_Clone0 {H : Hp} : TV.S 67 [.one (.c (cUr []))] H = some (.one (.sl H.length 0 0 0), H ++ [.clo [] false]) := by
  refine TT_baseS ?_
  simp only [cfg, strCloTab, cUr, List.map_nil]
  rfl
theorem u64_Clone1 {r : List Int} {H : Hp} (h0 : r ≠ []) (hl : r.length ≤ 100000) : TV.S 67 [.one (.c (cUr r))] H = some (.one (.sl (H.length + 1) 0 r.length r.length), H ++ [.clo [] false, .clo (r.map cU) false]) := by
  obtain ⟨x, t, rfl⟩ : ∃ h t, r = h :: t := by cases r with | nil => exact absurd rfl h0 | cons h t => exact ⟨h, t, rfl⟩
  refine run67 rfl (by simp) (by simp) ?_
  have ha := vappend_eq (P := Tryz.prog) (H := H ++ [.clo [] false, .clo [] false]) (t := 57) (tx := 57) (id := H.length + 1) (n := 0) (l := []) (xs := (x :: t).map cU) (x := .one (.c (cUr (x :: t)))) es57 es57 el37
    (by simp) rfl rfl (by simp) (by intro e he; obtain ⟨c, -, rfl⟩ := List.mem_map.1 he; rfl) (by simp only [List.length_map]; omega) (by simp only [List.length_map]; omega)
  simp [cUr] at ha
  simp [Tryz.f67, cUr, vmove, isNil, bin_sln es57, bs_zero es57 el37, ha]
/-- A clone lies behind what is there. -/
theorem u64_Clone {r : List Int} {H : Hp} (hl : r.length ≤ 100000) : ∃ K : Hp, (∀ (id : Nat) e, H[id]? = some e → K[id]? = some e) ∧ H.length ≤ K.length ∧ TV.S 67 [.one (.c (cUr r))] H = some (.one (.sl K.length 0 r.length r.length), K ++ [.clo (r.map cU) false]) := by
  by_cases h : r = []
  · subst h; exact ⟨H, fun _ _ h => h, Nat.le_refl _, u64_Clone0⟩
  · refine ⟨H ++ [.clo [] false], fun id e he => ?_, by simp, ?_⟩
    · rw [List.getElem?_append_left (List.getElem?_eq_some_iff.1 he).1]; exact he
    · rw [u64_Clone1 h hl, List.length_append, List.length_singleton, List.append_assoc]; rfl
theorem mod_at {α : Type} {f : α → α} {a : α} {L : List α} : ∀ K : List α, (K ++ a :: L).modify K.length f = K ++ f a :: L
  | [] => by simp
  | x :: K => by simp [mod_at K]
theorem redR_at (m : List (List Int)) : ∀ r, r < (m.map redR).length → ∀ j, 0 ≤ at0 (row (m.map redR) r) j ∧ at0 (row (m.map redR) r) j < PP := fun r hr j => by
  have hr' : r < m.length := by simpa using hr
  rw [row_eq hr]
  simp only [List.getElem_map, redR, at0, List.getD_eq_getElem?_getD, List.getElem?_map]
  cases (m[r])[j]? with
  | none => simp [PP]
  | some v => simp only [Option.map_some, Option.getD_some]; exact ⟨by omega, by show _ < (2305843009213693951 : Int); omega⟩
theorem slc_from {P : Program} {H : Hp} {t e sz : Nat} (he : elemOfSlice P t = some e) (hs : pv P (sizeOf e) = some sz) {xs : List (List CV)} {nid k : Nat} (h1 : k ≤ xs.length) (hx : AllLen xs sz) : vslice P H nid t (.one (.c (.arr xs))) (some (vI .i64 (k : Int))) none none = qa (.one (.c (.arr (xs.drop k)))) := by
  unfold vslice
  simp only [he, hs, optInt, Option.getD_none, Option.getD_some]
  rw [if_pos ⟨by omega, by omega, Int.le_refl _, hx⟩]
  have e1 : ((xs.length : Int) - (k : Int)).toNat = xs.length - k := by omega
  simp
  rw [List.take_of_length_le (by simp)]
/-- The rows with their right sides. -/
def wideR (m : List (List Int)) (b : List Int) : List (List Int) := List.zipWith (fun r x => r ++ [x]) m b
theorem sv_Solve {m : List (List Int)} {b : List Int} {cols : Nat} (h0 : m ≠ []) (hc : cols ≤ 32) (hw : ∀ r ∈ m, r.length = cols) (hn : ∀ r ∈ m, ∀ n ∈ r, 0 ≤ n ∧ n < 18446744073709551616) (hb : ∀ n ∈ b, 0 ≤ n ∧ n < 18446744073709551616) (hbl : b.length = m.length) (hm : m.length ≤ 32) :
    TV.pu 37 [.one (cUm m), .one (cUr b)] = some (.tup [(false, [cUr (solF PP invF ((wideR m b).map redR) cols).2]), (false, [.v (.int .i64 (solF PP invF ((wideR m b).map redR) cols).1)])]) := by
  refine run37 (by simp) ?_
  have hev := sv_even (m := m) (by omega)
  have he : evenB m = true := by
    obtain ⟨x, t, rfl⟩ : ∃ h t, m = h :: t := by cases m with | nil => exact absurd rfl h0 | cons h t => exact ⟨h, t, rfl⟩
    have hx := hw x (by simp)
    have : (x :: t).any (unevB (x :: t)) = false := by
      rw [List.any_eq_false]
      intro r hr
      have := hw r hr
      simp [unevB]
      omega
    rw [evenB, this, decide_eq_true hm]
    rfl
  rw [he] at hev
  simp only [cUm, cUr] at hev
  have hbl' : ((b.length : Int) != (m.length : Int)) = false := by simp [hbl]
  have hm0 : ((m.length : Int) == 0) = false := by
    have := List.length_pos_iff.2 h0
    simp; omega
  obtain ⟨x0, hx0, hx0l⟩ : ∃ x, m[0]? = some x ∧ x.length = cols := by
    have := List.length_pos_iff.2 h0
    exact ⟨m[0], List.getElem?_eq_getElem this, hw _ (List.getElem_mem this)⟩
  simp [Tryz.f37, cUm, cUr, hev, hbl', hm0, hx0, hx0l]
  obtain ⟨I, hI⟩ : ∃ I : Nat → St → Prop, ∀ k s', I k s' ↔ (∃ e H i, s' = ⟨e, H⟩ ∧ e 0 = .one (.c (cUm m)) ∧ e 1 = .one (.c (cUr b)) ∧ e 6 = vI .i64 cols ∧ e 7 = .one (.sl 1 0 i i) ∧ e 33 = .one (.c (cUm m)) ∧ e 34 = vI .i64 m.length ∧ e 35 = vI .i64 (i : Nat) ∧ (i + k = m.length) ∧ (H[1]? = some (.clo (((wideR m b).map fun r => [cUr r]).take i) false))) := ⟨_, fun _ _ => Iff.rfl⟩
  refine wpL_ind I ?_ m.length _ ((hI _ _).2 ⟨_, [.clo [] false, .clo [] false], 0, (by first | rfl | (simp [cUm, cUr]; done) | (simp [cUm, cUr]; rfl) | (simp [cUm, cUr]; and_intros <;> rfl)), by simp [cUm, cUr], by simp [cUr], by simp, by simp, by simp [cUm, cUr], by simp, by simp, by omega, rfl⟩)
  intro k stI hstI
  obtain ⟨e, H, i, rfl, e0, e1, e6, e7, e33, e34, e35, hi, hH⟩ := (hI _ _).1 hstI
  by_cases c : i < m.length
  · have c' : (i : Int) < m.length := by omega
    obtain ⟨r, hr⟩ : ∃ r, m[i] = r := ⟨_, rfl⟩
    have hri : m[i]? = some r := by rw [List.getElem?_eq_getElem c, hr]
    have hrm : r ∈ m := hr ▸ List.getElem_mem c
    have hrl := hw r hrm
    have hib : i < b.length := by omega
    have hbi : b[i]? = some b[i] := List.getElem?_eq_getElem hib
    obtain ⟨x, hx⟩ : ∃ x, b[i] = x := ⟨_, rfl⟩
    rw [hx] at hbi
    obtain ⟨K, hK, hHK, hCl⟩ := u64_Clone (r := r) (H := H) (by omega)
    have hH' := hK _ _ hH
    simp only [cUr] at hCl
    have w_i : IntKind.i64.wrap ((i : Int) + 1) = ((i + 1 : Nat) : Int) := by rw [w64_id (by omega) (by omega)]; omega
    have ha1 := vappend_eq (P := Tryz.prog) (H := K ++ [.clo (r.map cU) false]) (t := 57) (tx := 57) (id := K.length) (n := r.length) (l := r.map cU) (xs := [cU x]) (x := .one (.c (.arr [cU x]))) es57 es57 el37
      (by simp) rfl (by simp) (by intro e he; obtain ⟨c, -, rfl⟩ := List.mem_map.1 he; rfl) (by simp [cU]) (by simp only [List.length_singleton]; omega) (by simp only [List.length_singleton]; omega)
    simp only [List.length_singleton, cU] at ha1
    obtain ⟨rx, hrx⟩ : ∃ rx, r ++ [x] = rx := ⟨_, rfl⟩
    have hT : List.take (r.length + 1) (r.map cU ++ [[CV.v (Value.int .u64 x)]]) = rx.map cU := by
      rw [← hrx, List.map_append, List.take_of_length_le (by simp)]; rfl
    have hwl : (wideR m b).length = m.length := by simp [wideR, hbl]
    have hwi : (wideR m b)[i]? = some rx := by rw [← hrx]; simp [wideR, hri, hbi, List.getElem?_zipWith]
    have hl1 : 1 < K.length := (List.getElem?_eq_some_iff.1 hH').1
    have ha2 := vappend_eq (P := Tryz.prog) (H := K ++ [.clo (r.map cU ++ [[CV.v (Value.int .u64 x)]]) true, .clo [[.arr (rx.map cU)]] false]) (t := 56) (tx := 56) (id := 1) (n := i) (l := ((wideR m b).map fun r => [cUr r]).take i) (xs := [[.arr (rx.map cU)]]) (x := .one (.sl (K.length + 1) 0 1 1)) es56 es56 el57
      (by rw [List.getElem?_append_left hl1]; exact hH') (by simp [elemsOf]) (by simp; omega) (by intro e he; obtain ⟨y, -, rfl⟩ := List.mem_map.1 (List.mem_of_mem_take he); rfl) (by simp) (by simp only [List.length_singleton]; omega) (by simp only [List.length_singleton]; omega)
    have hN : (K ++ [Ent.clo (r.map cU ++ [[CV.v (Value.int .u64 x)]]) true, Ent.clo [[.arr (rx.map cU)]] false]).set 1 (.clo ((((wideR m b).map fun r => [cUr r]).take i) ++ [[.arr (rx.map cU)]]) false) = K.set 1 (.clo (((wideR m b).map fun r => [cUr r]).take (i + 1)) false) ++ [.clo (r.map cU ++ [[CV.v (Value.int .u64 x)]]) true, .clo [[.arr (rx.map cU)]] false] := by
      rw [List.set_append_left _ _ hl1, List.take_add_one, List.getElem?_map, hwi]
      rfl
    rw [hN] at ha2
    simp only [List.length_singleton] at ha2
    simp [e1, e6, e7, e33, e34, e35, cUm, cUr, c', hri, hbi, hCl, cU, cellsOf?, fzParts, setAll, rchParts, rch, vbuildC_eq es57 el37, vbuildSlice_eq es56 el57, frzAll, Ent.frz, ha1, hT, ha2]
    refine ⟨(k - 1), by omega, (hI _ _).2 ⟨_, _, i + 1, (by first | rfl | (simp [e0, e1, e6, e33, e34, w_i, cUm, cUr]; done) | (simp [e0, e1, e6, e33, e34, w_i, cUm, cUr]; rfl) | (simp [e0, e1, e6, e33, e34, w_i, cUm, cUr]; and_intros <;> rfl)), by simp [e0, w_i, cUm, cUr], by simp [e1, w_i, cUr], by simp [e6, w_i], by simp [w_i], by simp [e33, w_i, cUm, cUr], by simp [e34, w_i], by simp [w_i], by omega, by rw [List.getElem?_append_left (by rw [List.length_set]; exact hl1)]; exact set_self hH'⟩⟩
  · have c' : ¬ (i : Int) < m.length := by omega
    have hi' : i = m.length := by omega
    subst hi'
    have hwl : (wideR m b).length = m.length := by simp [wideR, hbl]
    rw [List.take_of_length_le (by rw [List.length_map, hwl]; exact Nat.le_refl _)] at hH
    have hWw : ∀ r ∈ wideR m b, r.length = cols + 1 := fun r hr => by
      obtain ⟨j, hj, rfl⟩ := List.getElem_of_mem hr
      have hj' : j < m.length := by omega
      simp only [wideR, List.getElem_zipWith, List.length_append, List.length_singleton, hw _ (List.getElem_mem hj')]
    have hWn : ∀ r ∈ wideR m b, ∀ n ∈ r, 0 ≤ n ∧ n < 18446744073709551616 := fun r hr n hnr => by
      obtain ⟨j, hj, rfl⟩ := List.getElem_of_mem hr
      have hj' : j < m.length := by omega
      have hjb : j < b.length := by omega
      simp only [wideR, List.getElem_zipWith] at hnr
      rcases List.mem_append.1 hnr with h | h
      · exact hn _ (List.getElem_mem hj') _ h
      · rw [List.mem_singleton.1 h]; exact hb _ (List.getElem_mem hjb)
    have hW0 : wideR m b ≠ [] := fun e => by rw [e] at hwl; have := List.length_pos_iff.2 h0; simp at hwl; omega
    obtain ⟨W, hW⟩ : ∃ W, wideR m b = W := ⟨_, rfl⟩
    rw [hW] at hH hwl hWw hWn hW0 ⊢
    have hcl := sv_clear (m := W) (cols := cols) (w := cols + 1) hW0 hWw hWn (by omega) (by omega) (by omega)
    have hinv := clr_inv (p := PP) inv_ok (m := W.map redR) (w := cols + 1) (fun r hr => by
      obtain ⟨x, hx, rfl⟩ := List.mem_map.1 hr
      simp [redR, hWw x hx]) (redR_at W) cols
    obtain ⟨M, a, hst⟩ : ∃ M a, clrTo PP invF (W.map redR) cols = (M, a) := ⟨_, _, rfl⟩
    unfold solF
    rw [hst] at hcl hinv ⊢
    dsimp only at hcl hinv ⊢
    obtain ⟨hE, -, hMl⟩ := hinv
    rw [List.length_map, hwl] at hMl
    have hal := hE.le
    have hMw : ∀ r ∈ M, r.length = cols + 1 := hE.len
    have hMW : ∀ (j : Nat), j < M.length → (row M j)[cols]? = some (at0 (row M j) cols) := fun j hj => by
      have := hMw _ (row_mem hj)
      rw [at0_get (by omega), List.getElem?_eq_getElem]
    simp only [cUm, cUr] at hcl
    have hWt : (W.map fun r => [CV.arr (r.map cU)]).take m.length = W.map fun r => [CV.arr (r.map cU)] := List.take_of_length_le (by rw [List.length_map, hwl]; exact Nat.le_refl _)
    simp [e6, e7, e33, e34, e35, cUm, cUr, c', hH, hcl, hwl, hWt, rcha, rch, frzAll, slc_from (P := Tryz.prog) es56 sz57 (xs := M.map fun r => [CV.arr (r.map cU)]) (k := a.length) (by rw [List.length_map]; omega) (by intro x hx; obtain ⟨y, -, rfl⟩ := List.mem_map.1 hx; rfl)]
    have hML : (M.length - a.length : Nat) = (M.length : Int) - a.length := by omega
    obtain ⟨J, hJ⟩ : ∃ J : Nat → St → Prop, ∀ k2 s', J k2 s' ↔ (∃ e G j, s' = ⟨e, G⟩ ∧ e 6 = vI .i64 cols ∧ e 10 = .one (.c (cUm M)) ∧ e 11 = .one (.c (.arr (a.map fun (n : Nat) => cInt (n : Int)))) ∧ e 61 = .one (.c (cUm (M.drop a.length))) ∧ e 62 = vI .i64 ((M.length - a.length : Nat) : Int) ∧ e 63 = vI .i64 (j : Nat) ∧ (j + k2 = M.length - a.length) ∧ (∀ q, a.length ≤ q → q < a.length + j → at0 (row M q) cols = 0)) := ⟨_, fun _ _ => Iff.rfl⟩
    refine wpL_ind J ?_ (M.length - a.length) _ ((hJ _ _).2 ⟨_, _, 0, (by first | rfl | (simp [e6, cUm, cUr, cInt, hML]; done) | (simp [e6, cUm, cUr, cInt, hML]; rfl) | (simp [e6, cUm, cUr, cInt, hML]; and_intros <;> rfl)), by simp [e6, cInt, hML], by simp [cUm, cUr, cInt, hML], by simp [cInt, hML], by simp [cUm, cUr, cInt, hML], by simp [cInt, hML], by simp [cInt, hML], by omega, fun q h1 h2 => by omega⟩)
    clear e0 e1 e6 e7 e33 e34 e35
    intro k2 stJ hstJ
    obtain ⟨e, G, j, rfl, e6, e10, e11, e61, e62, e63, hj, hz⟩ := (hJ _ _).1 hstJ
    by_cases cj : j < M.length - a.length
    · have cj' : (j : Int) < ((M.length - a.length : Nat) : Int) := by omega
      have hq : a.length + j < M.length := by omega
      have hMj : M[a.length + j]? = some (row M (a.length + j)) := by rw [row_eq hq, List.getElem?_eq_getElem hq]
      have hMc := hMW _ hq
      obtain ⟨v, hv⟩ : ∃ v, at0 (row M (a.length + j)) cols = v := ⟨_, rfl⟩
      rw [hv] at hMc
      have w_j : IntKind.i64.wrap ((j : Int) + 1) = ((j + 1 : Nat) : Int) := by rw [w64_id (by omega) (by omega)]; omega
      by_cases hv0 : v = 0
      · simp [e6, e11, e61, e62, e63, cUm, cUr, cj', hMj, hMc, hv0, cU]
        refine ⟨(k2 - 1), by omega, (hJ _ _).2 ⟨_, _, j + 1, (by first | rfl | (simp [e6, e10, e11, e61, e62, cUm, cUr, w_j]; done) | (simp [e6, e10, e11, e61, e62, cUm, cUr, w_j]; rfl) | (simp [e6, e10, e11, e61, e62, cUm, cUr, w_j]; and_intros <;> rfl)), by simp [e6, w_j], by simp [e10, cUm, cUr, w_j], by simp [e11, w_j], by simp [e61, cUm, cUr, w_j], by simp [e62, w_j], by simp [w_j], by omega, ?_⟩⟩
        intro q h1 h2
        by_cases ej : q = a.length + j
        · rw [ej, hv, hv0]
        · exact hz q h1 (by omega)
      · simp [e6, e11, e61, e62, e63, cUm, cUr, cj', hMj, hMc, hv0, cU]
        rw [if_pos (badR_iff.2 ⟨a.length + j, by show a.length ≤ _; omega, hq, by show at0 (row M (a.length + j)) cols ≠ 0; rw [hv]; exact hv0⟩)]
        exact ⟨rfl, rfl⟩
    · have cj' : ¬ (j : Int) < ((M.length - a.length : Nat) : Int) := by omega
      have hb0 : ¬ badR (M, a) cols = true := fun h => by
        obtain ⟨r, k1, k2', k3⟩ := badR_iff.1 h
        exact k3 (hz r k1 (by have : r < M.length := k2'; omega))
      rw [if_neg hb0]
      by_cases cl : a.length < cols
      · have cl' : (a.length : Int) < cols := by omega
        rw [if_pos cl]
        simp [e6, e11, e61, e62, e63, cUm, cUr, cj', cl']
      · have cl' : ¬ (a.length : Int) < cols := by omega
        rw [if_neg cl]
        simp [e6, e11, e61, e62, e63, cUm, cUr, cj', cl']
        obtain ⟨L, hL⟩ : ∃ L : Nat → St → Prop, ∀ k3 s', L k3 s' ↔ (∃ e G d i, s' = ⟨e, G⟩ ∧ e 6 = vI .i64 cols ∧ e 10 = .one (.c (cUm M)) ∧ e 14 = .one (.sl d 0 i i) ∧ e 77 = vI .i64 cols ∧ e 78 = vI .i64 (i : Nat) ∧ (i + k3 = cols) ∧ (G[d]? = some (.clo (((List.range cols).map fun i => cU (at0 (row M i) cols)).take i) false))) := ⟨_, fun _ _ => Iff.rfl⟩
        refine wpL_ind L ?_ cols _ ((hL _ _).2 ⟨_, _, G.length, 0, (by first | rfl | (simp [e6, e10, cUm, cUr]; done) | (simp [e6, e10, cUm, cUr]; rfl) | (simp [e6, e10, cUm, cUr]; and_intros <;> rfl)), by simp [e6], by simp [e10, cUm, cUr], by simp, by simp, by simp, by omega, by simp⟩)
        clear e6 e10 e11 e61 e62 e63
        intro k3 stL hstL
        obtain ⟨e, G, d, i, rfl, e6, e10, e14, e77, e78, hi, hG⟩ := (hL _ _).1 hstL
        have hlr : ∀ q, (((List.range cols).map fun i => cU (at0 (row M i) cols)).take q).length = min q cols := fun q => by simp
        by_cases ci : i < cols
        · have ci' : (i : Int) < cols := by omega
          have hq : i < M.length := by omega
          have hMj : M[i]? = some (row M i) := by rw [row_eq hq, List.getElem?_eq_getElem hq]
          have hMc := hMW _ hq
          have hrg : ((List.range cols).map fun i => cU (at0 (row M i) cols))[i]? = some (cU (at0 (row M i) cols)) := by simp [ci]
          obtain ⟨v, hv⟩ : ∃ v, at0 (row M i) cols = v := ⟨_, rfl⟩
          rw [hv] at hMc hrg
          have hdG := (List.getElem?_eq_some_iff.1 hG).1
          have w_i : IntKind.i64.wrap ((i : Int) + 1) = ((i + 1 : Nat) : Int) := by rw [w64_id (by omega) (by omega)]; omega
          have ha3 := vappend_eq (P := Tryz.prog) (H := G ++ [.clo [cU v] false]) (t := 57) (tx := 57) (id := d) (n := i) (l := ((List.range cols).map fun i => cU (at0 (row M i) cols)).take i) (xs := [cU v]) (x := .one (.sl G.length 0 1 1)) es57 es57 el37
            (by rw [List.getElem?_append_left hdG]; exact hG) (by simp [elemsOf]) (by rw [hlr]; omega) (by intro e he; obtain ⟨y, -, rfl⟩ := List.mem_map.1 (List.mem_of_mem_take he); rfl) (by simp [cU]) (by simp only [List.length_singleton]; omega) (by simp only [List.length_singleton]; omega)
          have hN3 : (((List.range cols).map fun i => cU (at0 (row M i) cols)).take i) ++ [cU v] = ((List.range cols).map fun i => cU (at0 (row M i) cols)).take (i + 1) := by
            rw [List.take_add_one, hrg]; rfl
          rw [hN3] at ha3
          obtain ⟨G2, hG2⟩ : ∃ G2, (G ++ [Ent.clo [cU v] false]).set d (.clo (((List.range cols).map fun i => cU (at0 (row M i) cols)).take (i + 1)) false) = G2 := ⟨_, rfl⟩
          have hG2d : G2[d]? = some (.clo (((List.range cols).map fun i => cU (at0 (row M i) cols)).take (i + 1)) false) := by
            rw [← hG2]; exact set_self (e0 := _) (by rw [List.getElem?_append_left hdG]; exact hG)
          rw [hG2] at ha3
          simp only [cU, List.length_singleton] at ha3
          simp [e6, e10, e14, e77, e78, cUm, cUr, ci', hMj, hMc, cU, cellsOf?, fzParts, setAll, rchParts, rch, vbuildSlice_eq es57 el37, ha3]
          exact ⟨(k3 - 1), by omega, (hL _ _).2 ⟨_, G2, d, i + 1, (by first | rfl | (simp [e6, e10, e77, w_i, cUm, cUr]; done) | (simp [e6, e10, e77, w_i, cUm, cUr]; rfl) | (simp [e6, e10, e77, w_i, cUm, cUr]; and_intros <;> rfl)), by simp [e6, w_i], by simp [e10, w_i, cUm, cUr], by simp [w_i], by simp [e77, w_i], by simp [w_i], by omega, hG2d⟩⟩
        · have ci' : ¬ (i : Int) < cols := by omega
          have hi : i = cols := by omega
          subst hi
          have hlr2 := hlr i
          rw [Nat.min_self] at hlr2
          have htk : ((List.range i).map fun j => cU (at0 (row M j) i)).take i = (List.range i).map fun j => cU (at0 (row M j) i) := List.take_of_length_le (by simp)
          rw [htk] at hG
          simp [e10, e14, e77, e78, ci', hG]
          rw [htk]
          rfl
end Go.Proofs.YtmgnmnogiajlgaaGreatF
end

section
/- Joint: the equations of a radar's cells, and that what came solves them. -/
set_option maxRecDepth 8192
set_option maxHeartbeats 1000000
namespace Go.Proofs.YtmgnmnogiajlgaaGreatF
open Go Go.Proofs.Vm Go.Proofs.Vm.Fld

/-- The equation of a cell: 1 at each key whose place it is. -/
def eqRow (R : Rad) (keys : List ByteArray) (i n p : Nat) : List Int := keys.map fun k => if rplc R k i n = (p : Int) then 1 else 0
def eqOf (R : Rad) (keys : List ByteArray) (i k : Nat) : List (List Int) := (List.range k).map fun p => eqRow R keys i (R.rows.getD i []).length p
def eqTo (R : Rad) (keys : List ByteArray) (i : Nat) : List (List Int) := ((List.range i).map fun j => eqOf R keys j (R.rows.getD j []).length).flatten
def eqAll (R : Rad) (keys : List ByteArray) : List (List Int) := eqTo R keys R.rows.length
def rhsTo (R : Rad) (f : RCl → Int) (i : Nat) : List Int := ((R.rows.take i).flatten).map f
def rhs (R : Rad) (f : RCl → Int) : List Int := R.rows.flatten.map f
def pkF (c : RCl) : Int := c.2.2.1
def byF (c : RCl) : Int := c.2.2.2
theorem eqRow_len (R : Rad) (keys : List ByteArray) (i n p : Nat) : (eqRow R keys i n p).length = keys.length := by simp [eqRow]
theorem dot_snoc : ∀ (r x : List Int) (b s : Int), r.length = x.length → dot (r ++ [b]) (x ++ [s]) = dot r x + b * s
  | [], [], b, s, _ => by simp [dot]
  | [], _ :: _, _, _, h => by simp at h
  | _ :: _, [], _, _, h => by simp at h
  | a :: r, y :: x, b, s, h => by
    have := dot_snoc r x b s (by simpa using h)
    show a * y + dot (r ++ [b]) (x ++ [s]) = a * y + dot r x + b * s
    omega
theorem dot_map_add (a f g : ByteArray → Int) : ∀ keys : List ByteArray, dot (keys.map a) (keys.map fun k => f k + g k) = dot (keys.map a) (keys.map f) + dot (keys.map a) (keys.map g)
  | [] => rfl
  | k :: keys => by
    have := dot_map_add a f g keys
    show a k * (f k + g k) + dot (keys.map a) (keys.map _) = (a k * f k + dot (keys.map a) (keys.map f)) + (a k * g k + dot (keys.map a) (keys.map g))
    rw [Int.mul_add]
    omega
theorem dot_map_zero (a : ByteArray → Int) : ∀ keys : List ByteArray, dot (keys.map a) (keys.map fun _ => 0) = 0
  | [] => rfl
  | k :: keys => by
    have := dot_map_zero a keys
    show a k * 0 + dot (keys.map a) (keys.map _) = 0
    omega
theorem dot_map_one (a : ByteArray → Int) (x : ByteArray) (c : Int) : ∀ keys : List ByteArray, keys.Nodup → x ∈ keys → dot (keys.map a) (keys.map fun k => if x = k then c else 0) = a x * c
  | [], _, h => by simp at h
  | k :: keys, hn, h => by
    obtain ⟨h1, h2⟩ := List.nodup_cons.1 hn
    show a k * (if x = k then c else 0) + dot (keys.map a) (keys.map _) = _
    by_cases e : x = k
    · subst e
      have : (keys.map fun k => if x = k then c else 0) = keys.map fun _ => 0 := List.map_congr_left fun k hk => if_neg fun e => h1 (by rw [e]; exact hk)
      rw [this, dot_map_zero, if_pos rfl]
      omega
    · rw [if_neg e]
      have hm : x ∈ keys := by
        rcases List.mem_cons.1 h with h | h
        · exact absurd h e
        · exact h
      rw [dot_map_one a x c keys h2 hm]
      omega
/-- What a key's packets come to. -/
def wOf (w : Pkt → Int) (L : List Pkt) (k : ByteArray) : Int := ((L.filter fun x => decide (x.1 = k)).map w).sum
theorem wOf_cons (w : Pkt → Int) (x : Pkt) (L : List Pkt) (k : ByteArray) : wOf w (x :: L) k = (if x.1 = k then w x else 0) + wOf w L k := by
  unfold wOf
  rw [List.filter_cons]
  by_cases h : x.1 = k
  · rw [if_pos (decide_eq_true h), if_pos h]; rfl
  · rw [if_neg (by simpa using h), if_neg h]; omega
theorem dot_keys (a : ByteArray → Int) (w : Pkt → Int) : ∀ (L : List Pkt) {keys : List ByteArray}, keys.Nodup → (∀ x ∈ L, x.1 ∈ keys) → dot (keys.map a) (keys.map (wOf w L)) = (L.map fun x => a x.1 * w x).sum
  | [], keys, _, _ => dot_map_zero a keys
  | x :: L, keys, hn, h => by
    have ih := dot_keys a w L hn fun y hy => h y (List.mem_cons_of_mem _ hy)
    have e : keys.map (wOf w (x :: L)) = keys.map fun k => (if x.1 = k then w x else 0) + wOf w L k := List.map_congr_left fun k _ => wOf_cons w x L k
    rw [e, dot_map_add, dot_map_one a x.1 (w x) keys hn (h x List.mem_cons_self)]
    show _ + dot (keys.map a) (keys.map (wOf w L)) = _
    rw [ih, List.map_cons, List.sum_cons]
theorem sum_pick (q : Pkt → Bool) (w : Pkt → Int) : ∀ L : List Pkt, (L.map fun x => (if q x = true then 1 else 0) * w x).sum = ((L.filter q).map w).sum
  | [] => rfl
  | x :: L => by
    rw [List.map_cons, List.sum_cons, sum_pick q w L, List.filter_cons]
    by_cases h : q x = true
    · rw [if_pos h, if_pos h, Int.one_mul]; rfl
    · rw [if_neg h, if_neg h, Int.zero_mul, Int.zero_add]
theorem count_sum (q : Pkt → Bool) : ∀ L : List Pkt, ((L.filter q).map fun _ => (1 : Int)).sum = ((L.countP q : Nat) : Int)
  | [] => rfl
  | x :: L => by
    have ih := count_sum q L
    rw [List.filter_cons, List.countP_cons]
    by_cases h : q x = true
    · rw [if_pos h, if_pos h, List.map_cons, List.sum_cons, ih]; omega
    · rw [if_neg h, if_neg h, ih]; omega
/-- What came solves the equations of the cells. -/
theorem enc_dot {s h : Int} {bits rows cols : Nat} (hc : 1 ≤ cols) {K keys : List ByteArray} {L : List Pkt} (hn : keys.Nodup) (hL : ∀ x ∈ L, x.1 ∈ keys) {i p : Nat} (_hp : p < cols) :
    dot (eqRow (encRad s h bits rows cols K L) keys i cols p) (keys.map (wOf (fun _ => 1) L)) = pkF (encC (pln s i cols) K L p) ∧ dot (eqRow (encRad s h bits rows cols K L) keys i cols p) (keys.map (wOf (·.2) L)) = byF (encC (pln s i cols) K L p) := by
  have hq : ∀ k : ByteArray, (if rplc (encRad s h bits rows cols K L) k i cols = (p : Int) then (1 : Int) else 0) = if (pln s i cols k == p) = true then 1 else 0 := fun k => by
    have hr := hcell_range (hrow s ((i : Int) + 1)) k (cols : Int) (by omega)
    have e : rplc (encRad s h bits rows cols K L) k i cols = (pln s i cols k : Int) := by
      show hcell (hrow s ((i : Int) + 1)) k (cols : Int) = _
      unfold pln; omega
    rw [e]
    by_cases c : pln s i cols k = p
    · rw [if_pos (by omega), if_pos (by simpa using c)]
    · rw [if_neg (by omega), if_neg (by simpa using c)]
  unfold eqRow
  simp only [hq]
  rw [dot_keys _ _ L hn hL, dot_keys _ _ L hn hL, sum_pick (fun x => pln s i cols x.1 == p), sum_pick (fun x => pln s i cols x.1 == p), count_sum]
  exact ⟨rfl, rfl⟩
theorem wide_mem {m : List (List Int)} {b : List Int} {r : List Int} (h : r ∈ wideR m b) : ∃ i, ∃ h1 : i < m.length, ∃ h2 : i < b.length, r = m[i] ++ [b[i]] := by
  obtain ⟨i, hi, rfl⟩ := List.getElem_of_mem h
  have hi' : i < m.length ∧ i < b.length := by simp only [wideR, List.length_zipWith] at hi; omega
  exact ⟨i, hi'.1, hi'.2, by simp [wideR]⟩
/-- The equations, cell by cell. -/
theorem eqTo_wide (R : Rad) (keys : List ByteArray) (f : RCl → Int) : ∀ i, i ≤ R.rows.length → (eqTo R keys i).length = (rhsTo R f i).length ∧ ∀ r ∈ wideR (eqTo R keys i) (rhsTo R f i), ∃ j, ∃ hj : j < R.rows.length, ∃ p, ∃ hp : p < R.rows[j].length, r = eqRow R keys j R.rows[j].length p ++ [f R.rows[j][p]]
  | 0, _ => by simp [eqTo, rhsTo, wideR]
  | i + 1, h => by
    obtain ⟨g1, g2⟩ := eqTo_wide R keys f i (by omega)
    have hi : i < R.rows.length := by omega
    have hd : R.rows.getD i [] = R.rows[i] := by rw [List.getD_eq_getElem?_getD, List.getElem?_eq_getElem hi]; rfl
    have e1 : eqTo R keys (i + 1) = eqTo R keys i ++ eqOf R keys i R.rows[i].length := by
      unfold eqTo
      rw [List.range_succ, List.map_append, List.flatten_append, List.map_singleton, List.flatten_singleton, hd]
    have e2 : rhsTo R f (i + 1) = rhsTo R f i ++ R.rows[i].map f := by
      unfold rhsTo
      rw [List.take_add_one, List.getElem?_eq_getElem hi, Option.toList_some, List.flatten_append, List.map_append, List.flatten_singleton]
    have e3 : wideR (eqTo R keys (i + 1)) (rhsTo R f (i + 1)) = wideR (eqTo R keys i) (rhsTo R f i) ++ wideR (eqOf R keys i R.rows[i].length) (R.rows[i].map f) := by
      rw [e1, e2]
      exact List.zipWith_append g1
    refine ⟨by rw [e1, e2, List.length_append, List.length_append, g1]; simp [eqOf], fun r hr => ?_⟩
    rw [e3] at hr
    rcases List.mem_append.1 hr with hr | hr
    · exact g2 r hr
    · obtain ⟨p, h1, h2, rfl⟩ := wide_mem hr
      have hp : p < R.rows[i].length := by simpa using h2
      exact ⟨i, hi, p, hp, by simp [eqOf, hi]⟩
theorem rhs_all (R : Rad) (f : RCl → Int) : rhsTo R f R.rows.length = rhs R f := by unfold rhsTo rhs; rw [List.take_length]
/-- What came solves them all. -/
theorem enc_ann {s h : Int} {bits rows cols : Nat} (hc : 1 ≤ cols) {K keys : List ByteArray} {L : List Pkt} (hn : keys.Nodup) (hL : ∀ x ∈ L, x.1 ∈ keys) (p : Int) :
    Ann p (wideR (eqAll (encRad s h bits rows cols K L) keys) (rhs (encRad s h bits rows cols K L) pkF)) (keys.map (wOf (fun _ => 1) L) ++ [-1]) ∧ Ann p (wideR (eqAll (encRad s h bits rows cols K L) keys) (rhs (encRad s h bits rows cols K L) byF)) (keys.map (wOf (·.2) L) ++ [-1]) := by
  have key : ∀ j (hj : j < (encRad s h bits rows cols K L).rows.length), (encRad s h bits rows cols K L).rows[j] = encRow (pln s j cols) K L cols := fun j hj => encRows_get hj
  have hlen : ∀ j (hj : j < (encRad s h bits rows cols K L).rows.length), (encRad s h bits rows cols K L).rows[j].length = cols := fun j hj => by rw [key j hj, encRow_len]
  constructor
  · intro r hr
    rw [← rhs_all] at hr
    obtain ⟨j, hj, q, hq, rfl⟩ := (eqTo_wide _ keys pkF _ (Nat.le_refl _)).2 r hr
    have hq' : q < cols := by rw [hlen j hj] at hq; exact hq
    have e : (encRad s h bits rows cols K L).rows[j][q] = encC (pln s j cols) K L q := by simp only [key j hj]; exact encRow_get _
    rw [dot_snoc _ _ _ _ (by rw [eqRow_len, List.length_map]), hlen j hj, (enc_dot hc hn hL hq').1, e]
    exact ⟨0, by omega⟩
  · intro r hr
    rw [← rhs_all] at hr
    obtain ⟨j, hj, q, hq, rfl⟩ := (eqTo_wide _ keys byF _ (Nat.le_refl _)).2 r hr
    have hq' : q < cols := by rw [hlen j hj] at hq; exact hq
    have e : (encRad s h bits rows cols K L).rows[j][q] = encC (pln s j cols) K L q := by simp only [key j hj]; exact encRow_get _
    rw [dot_snoc _ _ _ _ (by rw [eqRow_len, List.length_map]), hlen j hj, (enc_dot hc hn hL hq').2, e]
    exact ⟨0, by omega⟩
end Go.Proofs.YtmgnmnogiajlgaaGreatF
end

section
/- Counts: keys that rise; packets and bytes of keys. -/
set_option maxRecDepth 8192
set_option maxHeartbeats 2000000
namespace Go.Proofs.YtmgnmnogiajlgaaGreatF
open Go Go.Proofs.Vm Go.Proofs.Vm.Fld

theorem sbin_geq {P : Program} {H : Hp} {t : TypeId} {x y : Operand} {u v : ByteArray} : vbin P H .geq t x y (vS u) (vS v) = qa (vB (!(Op.bytesLess u.toList v.toList))) := by
  simp [vbin, vbin0, neSl, isNils, isPtr, isNilp, AV.sc, Cell.sc, eqGuard, binOp, Op.stringOp, ofPv, one?, Value.oneCell']
/-- Do keys rise, and are they such? -/
def keyOk (keys : List ByteArray) (i : Nat) : Bool := decide ((keys.getD i ByteArray.empty).size = 37) && (decide (i = 0) || ltS (keys.getD (i - 1) ByteArray.empty) (keys.getD i ByteArray.empty))
def keysOk (keys : List ByteArray) : Bool := (List.range keys.length).all (keyOk keys)
theorem keysOk_iff {keys : List ByteArray} : keysOk keys = true ↔ ∀ i, i < keys.length → keyOk keys i = true := by
  unfold keysOk
  rw [List.all_eq_true]
  exact ⟨fun h i hi => h i (List.mem_range.2 hi), fun h i hi => h i (List.mem_range.1 hi)⟩
abbrev Ct := ByteArray × Int × Int
def cCt (c : Ct) : List CV := [.v (.string c.1), .v (.int .i64 c.2.1), .v (.int .i64 c.2.2)]
def cCts (l : List Ct) : CV := .arr (l.map cCt)
def ctsOf (keys : List ByteArray) (a b : List Int) : List Ct := (List.range keys.length).map fun i => (keys.getD i ByteArray.empty, at0 a i, at0 b i)
def bigA (n : Nat) (a b : List Int) : Bool := (List.range n).any fun i => decide (1099511627776 < at0 a i) || decide (1099511627776 < at0 b i)
def solR (m : List (List Int)) (b : List Int) (n : Nat) : Int × List Int := solF PP invF ((wideR m b).map redR) n
/-- The counts of keys: an error, or the counts. -/
def countsF (R : Rad) (keys : List ByteArray) : Int × List Ct :=
  if rOk R = false then (1, []) else if keysOk keys = false then (1, []) else if 32 < R.rows.length * (R.rows.headD []).length ∨ 32 < keys.length then (4, []) else
  if (solR (eqAll R keys) (rhs R pkF) keys.length).1 ≠ 0 then ((solR (eqAll R keys) (rhs R pkF) keys.length).1, []) else
  if (solR (eqAll R keys) (rhs R byF) keys.length).1 ≠ 0 then ((solR (eqAll R keys) (rhs R byF) keys.length).1, []) else
  if bigA keys.length (solR (eqAll R keys) (rhs R pkF) keys.length).2 (solR (eqAll R keys) (rhs R byF) keys.length).2 = true then (3, []) else
  (0, ctsOf keys (solR (eqAll R keys) (rhs R pkF) keys.length).2 (solR (eqAll R keys) (rhs R byF) keys.length).2)
def countsA (r : Int × List Ct) : CA := .tup [(false, [cCts r.2]), (false, [.v (.int .i64 r.1)])]
theorem jn_wrong {R : Rad} (hs : Seeds R) (hl : Lens R) : TV.pu 26 [.agg (cRad R)] = some (cB (!rOk R)) := by
  refine run26 (by simp) ?_
  have hR := rd_Right hs hl
  simp only [cRad, cRws, cRw] at hR
  simp -implicitDefEqProofs [Tryz.f26, cRad, cRws, cRw, vmove, isNil, hR]
theorem keyOk_hit {keys : List ByteArray} {i : Nat} (hi : i < keys.length) (h : keyOk keys i = false) : keysOk keys = false := by
  cases e : keysOk keys with
  | false => rfl
  | true => rw [keysOk_iff.1 e i hi] at h; cases h
theorem ap_mod {α : Type} {f : α → α} : ∀ (H : List α) (L : List α) (j : Nat), (H ++ L).modify (H.length + j) f = H ++ L.modify j f
  | [], L, j => by simp
  | x :: H, L, j => by
    have := ap_mod (f := f) H L j
    show (x :: (H ++ L)).modify (H.length + 1 + j) f = x :: (H ++ L.modify j f)
    rw [show H.length + 1 + j = (H.length + j) + 1 by omega, List.modify_succ_cons, this]
theorem mk_row0 {nid n : Nat} (h : n ≤ 64) : vmakeSlice Tryz.prog false nid 57 (vI .i64 n) (vI .i64 n) = some (.one (.sl nid 0 n n), [rowE (List.replicate n 0)], []) := by
  rw [vmakeSlice_eq es57 el37, if_pos ⟨by omega, rfl, by simp [small]; omega, by omega⟩]
  simp [rowE, cU]
theorem mixR_same {a b : List Int} {j : Nat} (h : ∀ (h1 : j < a.length), at0 b j = a[j]) : mixR a b (j + 1) = mixR a b j := by
  apply List.ext_getElem (by simp [mixR])
  intro i h1 h2
  have hi : i < a.length := by simpa [mixR] using h2
  simp only [mixR, List.getElem_mapIdx]
  by_cases c : i < j
  · rw [if_pos c, if_pos (by omega)]
  · by_cases e : i = j
    · subst e
      rw [if_pos (by omega), if_neg c]
      exact h hi
    · rw [if_neg c, if_neg (by omega)]
theorem eqOf_succ (R : Rad) (keys : List ByteArray) (i p : Nat) : eqOf R keys i (p + 1) = eqOf R keys i p ++ [eqRow R keys i (R.rows.getD i []).length p] := by
  unfold eqOf
  rw [List.range_succ, List.map_append]
  rfl
theorem eqTo_succ {R : Rad} {keys : List ByteArray} {i : Nat} {r : List RCl} (hi : i < R.rows.length) (hr : R.rows[i] = r) : eqTo R keys (i + 1) = eqTo R keys i ++ eqOf R keys i r.length := by
  have hd : R.rows.getD i [] = r := by rw [List.getD_eq_getElem?_getD, List.getElem?_eq_getElem hi, hr]; rfl
  unfold eqTo
  rw [List.range_succ, List.map_append, List.flatten_append, List.map_singleton, List.flatten_singleton, hd]
theorem rhsTo_succ {R : Rad} {f : RCl → Int} {i : Nat} {r : List RCl} (hi : i < R.rows.length) (hr : R.rows[i] = r) : rhsTo R f (i + 1) = rhsTo R f i ++ r.map f := by
  unfold rhsTo
  rw [List.take_add_one, List.getElem?_eq_getElem hi, hr, Option.toList_some, List.flatten_append, List.map_append, List.flatten_singleton]
theorem eqTo_len {R : Rad} {keys : List ByteArray} {n : Nat} (hn : ∀ x ∈ R.rows, x.length = n) : ∀ i, i ≤ R.rows.length → (eqTo R keys i).length = i * n
  | 0, _ => by simp [eqTo]
  | i + 1, h => by
    have hi : i < R.rows.length := by omega
    rw [eqTo_succ hi rfl, List.length_append, eqTo_len hn i (by omega), hn _ (List.getElem_mem hi), Nat.add_mul, Nat.one_mul]
    simp [eqOf]
theorem eqAll_row (R : Rad) (keys : List ByteArray) : ∀ r ∈ eqAll R keys, r.length = keys.length ∧ ∀ n ∈ r, 0 ≤ n ∧ n < 18446744073709551616 := fun r hr => by
  obtain ⟨l, hl, hr⟩ := List.mem_flatten.1 (show r ∈ List.flatten _ from hr)
  obtain ⟨j, _, rfl⟩ := List.mem_map.1 hl
  obtain ⟨p, _, rfl⟩ := List.mem_map.1 (show r ∈ List.map _ _ from hr)
  refine ⟨eqRow_len .., fun n hn => ?_⟩
  obtain ⟨k, _, rfl⟩ := List.mem_map.1 (show n ∈ List.map _ _ from hn)
  split <;> omega
theorem rhs_mem {R : Rad} {f : RCl → Int} (hok : rOk R = true) (hf : ∀ c, wrongB c = false → 0 ≤ f c ∧ f c < 18446744073709551616) : ∀ n ∈ rhs R f, 0 ≤ n ∧ n < 18446744073709551616 := fun n hn => by
  obtain ⟨q1, q2, q3, q4, q5⟩ := rOk_facts hok
  obtain ⟨c, hc, rfl⟩ := List.mem_map.1 (show n ∈ List.map _ _ from hn)
  obtain ⟨l, hl, hc⟩ := List.mem_flatten.1 hc
  exact hf c ((q5 l hl).2.2.2 c hc)
theorem bigA_of {n : Nat} {a b : List Int} {i : Nat} (hi : i < n) (h : 1099511627776 < at0 a i ∨ 1099511627776 < at0 b i) : bigA n a b = true := by
  unfold bigA
  rw [List.any_eq_true]
  exact ⟨i, List.mem_range.2 hi, by simpa using h⟩
theorem solR_told {m : List (List Int)} {b : List Int} {n : Nat} (hw : ∀ r ∈ m, r.length = n) (_hl : b.length = m.length) : Fld.Told PP ((wideR m b).map redR) n (solR m b n) := by
  refine sol_told inv_ok (fun r hr => ?_) (redR_at _)
  obtain ⟨x, hx, rfl⟩ := List.mem_map.1 hr
  obtain ⟨j, h1, h2, rfl⟩ := wide_mem hx
  simp [redR, hw _ (List.getElem_mem h1)]
theorem jn_Counts {R : Rad} {keys : List ByteArray} (hs : Seeds R) (hl : Lens R) (hk : keys.length < 4611686018427387904) : TV.pu 14 [.agg (cRad R), .one (cSs keys)] = some (countsA (countsF R keys)) := by
  refine run14 (by simp) ?_
  have hwr := jn_wrong hs hl
  simp only [cRad, cRws, cRw] at hwr
  obtain ⟨res, hres⟩ : ∃ res, countsF R keys = res := ⟨_, rfl⟩
  rw [hres]
  cases hok : rOk R with
  | false =>
    rw [hok] at hwr
    rw [countsF, if_pos hok] at hres
    subst hres
    simp -implicitDefEqProofs [Tryz.f14, cRad, cRws, cRw, cSs, vmove, isNil, hwr, countsA, cCts]
  | true =>
  rw [hok] at hwr
  rw [countsF, if_neg (by rw [hok]; decide)] at hres
  simp -implicitDefEqProofs [Tryz.f14, cRad, cRws, cRw, cSs, vmove, isNil, hwr]
  obtain ⟨I, hI⟩ : ∃ I : Nat → St → Prop, ∀ k s', I k s' ↔ (∃ e i E1 L, s' = ⟨e, .opn [(cRad R).map .c] false :: E1 :: L⟩ ∧ e 1 = .one (.c (cSs keys)) ∧ e 2 = .one (.ptr ⟨0, 0, 0, 1⟩) ∧ e 26 = .one (.c (cSs keys)) ∧ e 27 = vI .i64 keys.length ∧ e 28 = vI .i64 (i : Nat) ∧ (i + k = keys.length) ∧ (L = []) ∧ (∀ j, j < i → keyOk keys j = true)) := ⟨_, fun _ _ => Iff.rfl⟩
  refine wpL_ind I ?_ keys.length _ ((hI _ _).2 ⟨_, 0, _, _, (by first | rfl | (simp [cRad, cRws, cRw, cSs]; done) | (simp [cRad, cRws, cRw, cSs]; rfl) | (simp [cRad, cRws, cRw, cSs]; and_intros <;> rfl)), by simp [cSs], by simp, by simp [cSs], by simp, by simp, by omega, rfl, fun j hj => by omega⟩)
  intro k stI hstI
  obtain ⟨e, i, E1, L, rfl, e1, e2, e26, e27, e28, hi, hL, hno⟩ := (hI _ _).1 hstI
  subst hL
  by_cases c : i < keys.length
  · have c' : (i : Int) < keys.length := by omega
    have w_i : IntKind.i64.wrap ((i : Int) + 1) = ((i + 1 : Nat) : Int) := by rw [w64_id (by omega) (by omega)]; omega
    obtain ⟨x, hx⟩ : ∃ x, keys[i] = x := ⟨_, rfl⟩
    have hxi : keys[i]? = some x := by rw [List.getElem?_eq_getElem c, hx]
    have hg : keys.getD i ByteArray.empty = x := by rw [List.getD_eq_getElem?_getD, hxi]; rfl
    have hbad : keyOk keys i = false → res = (1, []) := fun h => by rw [if_pos (keyOk_hit c h)] at hres; exact hres.symm
    have hgood : keyOk keys i = true → ∀ j, j < i + 1 → keyOk keys j = true := fun h j hj => by
      by_cases e : j = i
      · rw [e]; exact h
      · exact hno j (by omega)
    unfold keyOk at hbad hgood
    rw [hg] at hbad hgood
    by_cases h37 : x.size = 37
    · have h37' : (x.size : Int) = 37 := by omega
      by_cases i0 : i = 0
      · have i1 : ¬ 0 < i := by omega
        simp [e2, e26, e27, e28, c', cSs, cStr, hxi, h37', i1, vmove, isNil]
        exact ⟨(k - 1), by omega, (hI _ _).2 ⟨_, i + 1, _, _, (by first | rfl | (simp [e1, e2, e26, e27, cRad, cRws, cRw, cSs, w_i]; done) | (simp [e1, e2, e26, e27, cRad, cRws, cRw, cSs, w_i]; rfl) | (simp [e1, e2, e26, e27, cRad, cRws, cRw, cSs, w_i]; and_intros <;> rfl)), by simp [e1, cSs, w_i], by simp [e2, w_i], by simp [e26, cSs, w_i], by simp [e27, w_i], by simp [w_i], by omega, rfl, hgood (by simp [h37, i0])⟩⟩
      · have i1 : 0 < i := by omega
        have wi : IntKind.i64.wrap ((i : Int) - 1) = ((i - 1 : Nat) : Int) := by rw [w64_id (by omega) (by omega)]; omega
        obtain ⟨y, hy⟩ : ∃ y, keys[i - 1]'(by omega) = y := ⟨_, rfl⟩
        have hyi : keys[i - 1]? = some y := by rw [List.getElem?_eq_getElem (by omega), hy]
        have hgy : keys.getD (i - 1) ByteArray.empty = y := by rw [List.getD_eq_getElem?_getD, hyi]; rfl
        rw [hgy] at hbad hgood
        have hq : Op.bytesLess y.toList x.toList = ltS y x := rfl
        have i1' : (0 : Int) ≤ ((i - 1 : Nat) : Int) := by omega
        cases hlt : ltS y x with
        | true =>
          rw [hlt] at hq
          simp [e1, e2, e26, e27, e28, c', cSs, cStr, hxi, hyi, h37', i1, i1', wi, sbin_geq, hq, vmove, isNil]
          exact ⟨(k - 1), by omega, (hI _ _).2 ⟨_, i + 1, _, _, (by first | rfl | (simp [e1, e2, e26, e27, cRad, cRws, cRw, cSs, w_i]; done) | (simp [e1, e2, e26, e27, cRad, cRws, cRw, cSs, w_i]; rfl) | (simp [e1, e2, e26, e27, cRad, cRws, cRw, cSs, w_i]; and_intros <;> rfl)), by simp [e1, cSs, w_i], by simp [e2, w_i], by simp [e26, cSs, w_i], by simp [e27, w_i], by simp [w_i], by omega, rfl, hgood (by simp [h37, hlt])⟩⟩
        | false =>
          rw [hlt] at hq
          have := hbad (by simp [hlt, i0])
          subst this
          simp [e1, e2, e26, e27, e28, c', cSs, cStr, hxi, hyi, h37', i1, i1', wi, sbin_geq, hq, vmove, isNil, countsA, cCts]
    · have h37' : ¬ (x.size : Int) = 37 := by omega
      have := hbad (by simp [h37])
      subst this
      simp [e2, e26, e27, e28, c', cSs, cStr, hxi, h37', vmove, isNil, countsA, cCts]
  · have c' : ¬ (i : Int) < keys.length := by omega
    have hi' : i = keys.length := by omega
    subst hi'
    have hko : keysOk keys = true := keysOk_iff.2 hno
    rw [if_neg (by rw [hko]; decide)] at hres
    obtain ⟨q1, q2, q3, q4, q5⟩ := rOk_facts hok
    obtain ⟨r0, t0, hrt⟩ : ∃ r0 t0, R.rows = r0 :: t0 := by cases h : R.rows with | nil => rw [h] at q3; simp at q3 | cons a b => exact ⟨a, b, rfl⟩
    have hd0 : R.rows.headD [] = r0 := by rw [hrt]; rfl
    have hr0 : R.rows[0]? = some r0 := by rw [hrt]; rfl
    have q0 := q5 r0 (by rw [hrt]; exact List.mem_cons_self)
    have hn : ∀ x ∈ R.rows, x.length = r0.length := fun x hx => by rw [(q5 x hx).2.2.1, hd0]
    rw [hd0] at hres
    have hml : R.rows.length * r0.length ≤ 7 * 256 := Nat.mul_le_mul q4 q0.2.1
    obtain ⟨pr, hpr⟩ : ∃ pr, R.rows.length * r0.length = pr := ⟨_, rfl⟩
    have hmul : (R.rows.length : Int) * (r0.length : Int) = (pr : Int) := by rw [← hpr]; simp
    have hw9 : IntKind.i64.wrap ((R.rows.length : Int) * (r0.length : Int)) = (pr : Int) := by rw [hmul, w64_id (by omega) (by omega)]
    rw [hpr] at hres hml
    by_cases hbig : 32 < pr
    · rw [if_pos (.inl hbig)] at hres
      subst hres
      have hbig' : 32 < (pr : Int) := by omega
      simp -implicitDefEqProofs [e2, e27, e28, c', cRad, cRws, cRw, hr0, hw9, hbig', vmove, isNil, countsA, cCts]
    by_cases hbk : 32 < keys.length
    · rw [if_pos (.inr hbk)] at hres
      subst hres
      have hbig' : ¬ 32 < (pr : Int) := by omega
      have hbk' : 32 < (keys.length : Int) := by omega
      simp -implicitDefEqProofs [e1, e2, e27, e28, c', cRad, cRws, cRw, cSs, hr0, hw9, hbig', hbk', vmove, isNil, countsA, cCts]
    rw [if_neg (by omega)] at hres
    have hbig' : ¬ 32 < (pr : Int) := by omega
    have hbk' : ¬ 32 < (keys.length : Int) := by omega
    simp -implicitDefEqProofs [e1, e2, e27, e28, c', cRad, cRws, cRw, cSs, hr0, hw9, hbig', hbk', vmove, isNil]
    obtain ⟨J, hJ⟩ : ∃ J : Nat → St → Prop, ∀ k1 s', J k1 s' ↔ (∃ e i A B C E1 L, s' = ⟨e, .opn [(cRad R).map .c] false :: E1 :: .clo (A.map fun r => [cUr r]) false :: .clo (B.map cU) false :: .clo (C.map cU) false :: L⟩ ∧ e 1 = .one (.c (cSs keys)) ∧ e 2 = .one (.ptr ⟨0, 0, 0, 1⟩) ∧ e 8 = .one (.sl 2 0 A.length A.length) ∧ e 9 = .one (.sl 3 0 A.length A.length) ∧ e 10 = .one (.sl 4 0 A.length A.length) ∧ e 66 = .one (.c (cRws R.rows)) ∧ e 67 = vI .i64 R.rows.length ∧ e 68 = vI .i64 (i : Nat) ∧ (i + k1 = R.rows.length) ∧ (A = eqTo R keys i) ∧ (B = rhsTo R pkF i) ∧ (C = rhsTo R byF i) ∧ (B.length = A.length) ∧ (C.length = A.length) ∧ (A.length ≤ 256 * i)) := ⟨_, fun _ _ => Iff.rfl⟩
    refine wpL_ind J ?_ R.rows.length _ ((hJ _ _).2 ⟨_, 0, [], [], [], _, [], (by first | rfl | (simp [e1, e2, cRad, cRws, cRw, cSs, cStr, cUr]; done) | (simp [e1, e2, cRad, cRws, cRw, cSs, cStr, cUr]; rfl) | (simp [e1, e2, cRad, cRws, cRw, cSs, cStr, cUr]; and_intros <;> rfl)), by simp [e1, cSs], by simp [e2], by simp, by simp, by simp, by simp [cRws, cRw], by simp, by simp, by omega, rfl, rfl, rfl, rfl, rfl, by simp⟩)
    clear e1 e2 e26 e27 e28
    intro k1 stJ hstJ
    obtain ⟨e, i, A, B, C, E1, L, rfl, e1, e2, e8, e9, e10, e66, e67, e68, hi, hA, hB, hC, hlB, hlC, hAl⟩ := (hJ _ _).1 hstJ
    by_cases ci : i < R.rows.length
    · have ci' : (i : Int) < R.rows.length := by omega
      obtain ⟨r, hr⟩ : ∃ r, R.rows[i] = r := ⟨_, rfl⟩
      have hri : R.rows[i]? = some r := by rw [List.getElem?_eq_getElem ci, hr]
      have hgr : (R.rows.getD i []).length = r.length := by rw [List.getD_eq_getElem?_getD, hri]; rfl
      have hrm : r ∈ R.rows := hr ▸ List.getElem_mem ci
      obtain ⟨g1, g2, g3, g4⟩ := q5 r hrm
      have w_i : IntKind.i64.wrap ((i : Int) + 1) = ((i + 1 : Nat) : Int) := by rw [w64_id (by omega) (by omega)]; omega
      simp -implicitDefEqProofs [e66, e67, e68, ci', hri, cRad, cRws, cRw, vmove, isNil]
      obtain ⟨K, hK⟩ : ∃ K : Nat → St → Prop, ∀ k2 s', K k2 s' ↔ (∃ e p A B C E1 L, s' = ⟨e, .opn [(cRad R).map .c] false :: E1 :: .clo (A.map fun r => [cUr r]) false :: .clo (B.map cU) false :: .clo (C.map cU) false :: L⟩ ∧ e 1 = .one (.c (cSs keys)) ∧ e 2 = .one (.ptr ⟨0, 0, 0, 1⟩) ∧ e 8 = .one (.sl 2 0 A.length A.length) ∧ e 9 = .one (.sl 3 0 A.length A.length) ∧ e 10 = .one (.sl 4 0 A.length A.length) ∧ e 66 = .one (.c (cRws R.rows)) ∧ e 67 = vI .i64 R.rows.length ∧ e 68 = vI .i64 (i : Nat) ∧ e 11 = vI .i64 (i : Nat) ∧ e 73 = .one (.c (cRw r)) ∧ e 74 = vI .i64 r.length ∧ e 75 = vI .i64 (p : Nat) ∧ (p + k2 = r.length) ∧ (A = eqTo R keys i ++ eqOf R keys i p) ∧ (B = rhsTo R pkF i ++ (r.take p).map pkF) ∧ (C = rhsTo R byF i ++ (r.take p).map byF) ∧ (B.length = A.length) ∧ (C.length = A.length) ∧ (A.length ≤ 256 * i + p)) := ⟨_, fun _ _ => Iff.rfl⟩
      refine wpL_ind K ?_ r.length _ ((hK _ _).2 ⟨_, 0, A, B, C, _, L, (by first | rfl | (simp [e1, e2, e8, e9, e10, e66, e67, e68, cRad, cRws, cRw, cSs, cUr]; done) | (simp [e1, e2, e8, e9, e10, e66, e67, e68, cRad, cRws, cRw, cSs, cUr]; rfl) | (simp [e1, e2, e8, e9, e10, e66, e67, e68, cRad, cRws, cRw, cSs, cUr]; and_intros <;> rfl)), by simp [e1, cSs], by simp [e2], by simp [e8], by simp [e9], by simp [e10], by simp [e66, cRws, cRw], by simp [e67], by simp [e68], by simp, by simp [cRw], by simp, by simp, by omega, by rw [hA]; simp [eqOf], by rw [hB]; simp, by rw [hC]; simp, hlB, hlC, by omega⟩)
      clear e1 e2 e8 e9 e10 e66 e67 e68 hA hB hC hlB hlC hAl
      intro k2 stK hstK
      obtain ⟨e, p, A, B, C, E1, L, rfl, e1, e2, e8, e9, e10, e66, e67, e68, e11, e73, e74, e75, hp, hA, hB, hC, hlB, hlC, hAl⟩ := (hK _ _).1 hstK
      by_cases cp : p < r.length
      · have cp' : (p : Int) < r.length := by omega
        obtain ⟨cx, cf, cpk, cby, hc⟩ : ∃ cx cf cpk cby, r[p] = (cx, cf, cpk, cby) := ⟨_, _, _, _, rfl⟩
        have hrp : r[p]? = some (cx, cf, cpk, cby) := by rw [List.getElem?_eq_getElem cp, hc]
        have hcw := (wrongB_iff _).1 (g4 (cx, cf, cpk, cby) (hc ▸ List.getElem_mem cp))
        have hms := fun nid => mk_row0 (nid := nid) (n := keys.length) (by omega)
        have w_p : IntKind.i64.wrap ((p : Int) + 1) = ((p + 1 : Nat) : Int) := by rw [w64_id (by omega) (by omega)]; omega
        simp -implicitDefEqProofs [e1, e73, e74, e75, cp', hrp, hms, cRad, cRws, cRw, cSs, cCl, vmove, isNil, vstore, cellsOf?, Ent.wrO, wr]
        obtain ⟨er, her⟩ : ∃ er, eqRow R keys i r.length p = er := ⟨_, rfl⟩
        have hel : er.length = keys.length := by rw [← her]; exact eqRow_len ..
        have hea : ∀ q (h : q < keys.length), at0 er q = if rplc R keys[q] i r.length = (p : Int) then 1 else 0 := fun q h => by
          rw [← her, at0_get (by rw [eqRow_len]; exact h)]; simp [eqRow]
        obtain ⟨Q, hQ⟩ : ∃ Q : Nat → St → Prop, ∀ k3 s', Q k3 s' ↔ (∃ e q E1 L, s' = ⟨e, .opn [(cRad R).map .c] false :: E1 :: .clo (A.map fun r => [cUr r]) false :: .clo (B.map cU) false :: .clo (C.map cU) false :: (L ++ [.opn [(cCl (cx, cf, cpk, cby)).map .c] false, rowE (mixR (List.replicate keys.length 0) er q)])⟩ ∧ e 1 = .one (.c (cSs keys)) ∧ e 2 = .one (.ptr ⟨0, 0, 0, 1⟩) ∧ e 8 = .one (.sl 2 0 A.length A.length) ∧ e 9 = .one (.sl 3 0 A.length A.length) ∧ e 10 = .one (.sl 4 0 A.length A.length) ∧ e 66 = .one (.c (cRws R.rows)) ∧ e 67 = vI .i64 R.rows.length ∧ e 68 = vI .i64 (i : Nat) ∧ e 11 = vI .i64 (i : Nat) ∧ e 73 = .one (.c (cRw r)) ∧ e 74 = vI .i64 r.length ∧ e 75 = vI .i64 (p : Nat) ∧ e 13 = vI .i64 (p : Nat) ∧ e 14 = .one (.ptr ⟨L.length + 1 + 1 + 1 + 1 + 1, 0, 0, 1⟩) ∧ e 15 = .one (.sl (L.length + 1 + 1 + 1 + 1 + 1 + 1) 0 keys.length keys.length) ∧ e 83 = .one (.c (cSs keys)) ∧ e 84 = vI .i64 keys.length ∧ e 85 = vI .i64 (q : Nat) ∧ (q + k3 = keys.length)) := ⟨_, fun _ _ => Iff.rfl⟩
        refine wpL_ind Q ?_ keys.length _ ((hQ _ _).2 ⟨_, 0, _, L, (by first | rfl | (simp [cRad, cRws, cRw, cUr, cCl, mixR_zero]; done) | (simp [cRad, cRws, cRw, cUr, cCl, mixR_zero]; rfl) | (simp [cRad, cRws, cRw, cUr, cCl, mixR_zero]; and_intros <;> rfl)), by simp [e1, cSs], by simp [e2], by simp [e8], by simp [e9], by simp [e10], by simp [e66, cRws, cRw], by simp [e67], by simp [e68], by simp [e11], by simp [e73, cRw], by simp [e74], by simp [e75], by simp, by simp, by simp, by simp [cSs], by simp, by simp, by omega⟩)
        clear e1 e2 e8 e9 e10 e66 e67 e68 e11 e73 e74 e75
        intro k3 stQ hstQ
        obtain ⟨e, q, E1, L, rfl, e1, e2, e8, e9, e10, e66, e67, e68, e11, e73, e74, e75, e13, e14, e15, e83, e84, e85, hq⟩ := (hQ _ _).1 hstQ
        by_cases cq : q < keys.length
        · have cq' : (q : Int) < keys.length := by omega
          obtain ⟨x, hx⟩ : ∃ x, keys[q] = x := ⟨_, rfl⟩
          have hxq : keys[q]? = some x := by rw [List.getElem?_eq_getElem cq, hx]
          have hk37 : x.size = 37 := by
            have := hno q cq
            unfold keyOk at this
            rw [List.getD_eq_getElem?_getD, hxq] at this
            simp only [Option.getD_some, Bool.and_eq_true, decide_eq_true_eq] at this
            exact this.1
          have hpl := rd_Place (R := R) (key := x) (i := i) hs hl hok ci hk37
          simp only [hr] at hpl
          have heq := hea q cq
          rw [hx] at heq
          obtain ⟨pl, hpl2⟩ : ∃ pl, rplc R x i r.length = pl := ⟨_, rfl⟩
          rw [hpl2] at hpl heq
          have w_q : IntKind.i64.wrap ((q : Int) + 1) = ((q + 1 : Nat) : Int) := by rw [w64_id (by omega) (by omega)]; omega
          simp only [cRad, cRws, cRw] at hpl
          have hml2 : (mixR (List.replicate keys.length 0) er q).length = keys.length := by simp [mixR_len]
          by_cases hh : pl = (p : Int)
          · subst hh
            rw [if_pos rfl] at heq
            have hset : (mixR (List.replicate keys.length 0) er q).set q 1 = mixR (List.replicate keys.length 0) er (q + 1) := by
              have h1 : q < er.length := by omega
              rw [← mixR_set (by simpa using cq) (by simp [hel])]
              rw [at0_get h1] at heq
              rw [heq]
            have hst : ∀ X0 X1 X2 X3 X4 X5 : Ent, vstore Tryz.prog false (X0 :: X1 :: X2 :: X3 :: X4 :: (L ++ [X5, rowE (mixR (List.replicate keys.length 0) er q)])) 37 (.one (.ptr ⟨L.length + 1 + 1 + 1 + 1 + 1 + 1, q, 0, keys.length⟩)) (vI .u64 1) = some (X0 :: X1 :: X2 :: X3 :: X4 :: (L ++ [X5, rowE (mixR (List.replicate keys.length 0) er (q + 1))])) := fun X0 X1 X2 X3 X4 X5 => by
              rw [st_row (r := mixR (List.replicate keys.length 0) er q) (by simp) (by rw [hml2]; exact cq) hml2, hset]
              simp
            simp only [rowE] at hst
            simp -implicitDefEqProofs [e2, e11, e13, e15, e83, e84, e85, cq', hxq, hpl, cRad, cRws, cRw, cSs, cStr, cCl, vmove, isNil, rowE, hml2, hst]
            refine ⟨cq, ⟨_, mixR_get (by simpa using cq) (Nat.le_refl _), rfl⟩, ?_⟩
            exact ⟨(k3 - 1), by omega, (hQ _ _).2 ⟨_, q + 1, _, L, (by first | rfl | (simp [e1, e2, e8, e9, e10, e66, e67, e68, e11, e73, e74, e75, e13, e14, e15, e83, e84, cRad, cRws, cRw, cSs, cUr, cCl, cStr, w_q, rowE]; done) | (simp [e1, e2, e8, e9, e10, e66, e67, e68, e11, e73, e74, e75, e13, e14, e15, e83, e84, cRad, cRws, cRw, cSs, cUr, cCl, cStr, w_q, rowE]; rfl) | (simp [e1, e2, e8, e9, e10, e66, e67, e68, e11, e73, e74, e75, e13, e14, e15, e83, e84, cRad, cRws, cRw, cSs, cUr, cCl, cStr, w_q, rowE]; and_intros <;> rfl)), by simp [e1, cSs, w_q], by simp [e2, w_q], by simp [e8, w_q], by simp [e9, w_q], by simp [e10, w_q], by simp [e66, cRws, cRw, w_q], by simp [e67, w_q], by simp [e68, w_q], by simp [e11, w_q], by simp [e73, cRw, w_q], by simp [e74, w_q], by simp [e75, w_q], by simp [e13, w_q], by simp [e14, w_q], by simp [e15, w_q], by simp [e83, cSs, w_q], by simp [e84, w_q], by simp [w_q], by omega⟩⟩
          · rw [if_neg hh] at heq
            simp -implicitDefEqProofs [e2, e11, e13, e83, e84, e85, cq', hxq, hpl, hh, cRad, cRws, cRw, cSs, cStr, cCl, vmove, isNil]
            exact ⟨(k3 - 1), by omega, (hQ _ _).2 ⟨_, q + 1, _, L, (by first | rfl | (simp [cRad, cRws, cRw, cUr, cCl, w_q, mixR_same (a := List.replicate keys.length 0) (b := er) (j := q) (fun h => by rw [heq]; simp)]; done) | (simp [cRad, cRws, cRw, cUr, cCl, w_q, mixR_same (a := List.replicate keys.length 0) (b := er) (j := q) (fun h => by rw [heq]; simp)]; rfl) | (simp [cRad, cRws, cRw, cUr, cCl, w_q, mixR_same (a := List.replicate keys.length 0) (b := er) (j := q) (fun h => by rw [heq]; simp)]; and_intros <;> rfl)), by simp [e1, cSs], by simp [e2], by simp [e8], by simp [e9], by simp [e10], by simp [e66, cRws, cRw], by simp [e67], by simp [e68], by simp [e11], by simp [e73, cRw], by simp [e74], by simp [e75], by simp [e13], by simp [e14], by simp [e15], by simp [e83, cSs], by simp [e84], by simp, by omega⟩⟩
        · have cq' : ¬ (q : Int) < keys.length := by omega
          rw [mixR_all (a := List.replicate keys.length 0) (b := er) (j := q) (by simp [hel]) (by simp; omega)]
          have hwp : IntKind.u64.wrap cpk = cpk := u64_id (by have := hcw.2.2.2.1; dsimp only at this; omega) (by have := hcw.2.2.2.2.1; dsimp only at this; omega)
          have hwb : IntKind.u64.wrap cby = cby := u64_id (by have := hcw.2.2.2.2.2.1; dsimp only at this; omega) (by have := hcw.2.2.2.2.2.2; dsimp only at this; omega)
          have b1 : 24 * (A.length + 1) ≤ 140737488355328 := by omega
          have b2 : A.length + 1 ≤ 4611686018427387904 := by omega
          have b3 : 8 * (A.length + 1) ≤ 140737488355328 := by omega
          have hal1 : AllLen (A.map fun r => [cUr r]) 1 := by intro x hx; obtain ⟨y, _, rfl⟩ := List.mem_map.1 hx; rfl
          have hal2 : AllLen (B.map cU) 1 := by intro x hx; obtain ⟨y, _, rfl⟩ := List.mem_map.1 hx; rfl
          have hal3 : AllLen (C.map cU) 1 := by intro x hx; obtain ⟨y, _, rfl⟩ := List.mem_map.1 hx; rfl
          have hte : List.take keys.length (er.map cU) = er.map cU := List.take_of_length_le (by simp [hel])
          simp -implicitDefEqProofs [e8, e9, e10, e75, e14, e15, e84, e85, cq', cRad, cRws, cRw, cCl, vmove, isNil, rowE, hel, hte, vbuildSlice_eq es56 el57, vappend_sp es56 es56 el57, cellsOf?, fzParts, setAll, rchParts, rch, elemsOf, b1, b2, b3, hal1, hal2, hal3, hlB, hlC, hwp, hwb, frzAll, Ent.frz, ap_mod, vbuildC_eq es57 el37, vappend_sp es57 es57 el37]
          have htp : r.take (p + 1) = r.take p ++ [(cx, cf, cpk, cby)] := by rw [List.take_add_one, hrp]; rfl
          have hA2 : A ++ [er] = eqTo R keys i ++ eqOf R keys i (p + 1) := by
            rw [hA, eqOf_succ, hgr, her, List.append_assoc]
          have hB2 : B ++ [cpk] = rhsTo R pkF i ++ (r.take (p + 1)).map pkF := by rw [hB, htp, List.map_append, List.append_assoc]; rfl
          have hC2 : C ++ [cby] = rhsTo R byF i ++ (r.take (p + 1)).map byF := by rw [hC, htp, List.map_append, List.append_assoc]; rfl
          exact ⟨(k2 - 1), by omega, (hK _ _).2 ⟨_, p + 1, A ++ [er], B ++ [cpk], C ++ [cby], _, L ++ [_, _, _], (by first | rfl | (simp [cRad, cRws, cRw, cUr, cU, w_p]; done) | (simp [cRad, cRws, cRw, cUr, cU, w_p]; rfl) | (simp [cRad, cRws, cRw, cUr, cU, w_p]; and_intros <;> rfl)), by simp [e1, cSs], by simp [e2], by simp, by simp, by simp, by simp [e66, cRws, cRw], by simp [e67], by simp [e68], by simp [e11], by simp [e73, cRw], by simp [e74], by simp, by omega, hA2, hB2, hC2, by simp [hlB], by simp [hlC], by simp; omega⟩⟩
      · have cp' : ¬ (p : Int) < r.length := by omega
        have hp' : p = r.length := by omega
        subst hp'
        rw [← eqTo_succ ci hr] at hA
        rw [List.take_length, ← rhsTo_succ ci hr] at hB hC
        simp -implicitDefEqProofs [e68, e74, e75, cp', cRad, cRws, cRw, vmove, isNil]
        exact ⟨(k1 - 1), by omega, (hJ _ _).2 ⟨_, i + 1, A, B, C, _, L, (by first | rfl | (simp [e1, e2, e8, e9, e10, e66, e67, cRad, cRws, cRw, cSs, cCl, cUr, w_i]; done) | (simp [e1, e2, e8, e9, e10, e66, e67, cRad, cRws, cRw, cSs, cCl, cUr, w_i]; rfl) | (simp [e1, e2, e8, e9, e10, e66, e67, cRad, cRws, cRw, cSs, cCl, cUr, w_i]; and_intros <;> rfl)), by simp [e1, cSs, w_i], by simp [e2, w_i], by simp [e8, w_i], by simp [e9, w_i], by simp [e10, w_i], by simp [e66, cRws, cRw, w_i], by simp [e67, w_i], by simp [w_i], by omega, hA, hB, hC, hlB, hlC, by omega⟩⟩
    · have ci' : ¬ (i : Int) < R.rows.length := by omega
      have hi' : i = R.rows.length := by omega
      subst hi'
      rw [rhs_all] at hB hC
      have hA : A = eqAll R keys := hA
      have hAl2 : A.length = pr := by rw [hA, eqAll, eqTo_len hn _ (Nat.le_refl _), hpr]
      have hpr1 : 1 ≤ pr := by rw [← hpr]; exact Nat.mul_pos q3 q0.1
      have hA0 : A ≠ [] := fun e => by rw [e] at hAl2; simp at hAl2; omega
      have hAm : ∀ r ∈ A, r.length = keys.length ∧ ∀ n ∈ r, 0 ≤ n ∧ n < 18446744073709551616 := by rw [hA]; exact eqAll_row R keys
      have hBm : ∀ n ∈ B, 0 ≤ n ∧ n < 18446744073709551616 := by rw [hB]; exact rhs_mem hok (fun c hc => by have := (wrongB_iff _).1 hc; exact ⟨this.2.2.2.1, by have := this.2.2.2.2.1; show c.2.2.1 < _; omega⟩)
      have hCm : ∀ n ∈ C, 0 ≤ n ∧ n < 18446744073709551616 := by rw [hC]; exact rhs_mem hok (fun c hc => by have := (wrongB_iff _).1 hc; exact ⟨this.2.2.2.2.2.1, by have := this.2.2.2.2.2.2; show c.2.2.2 < _; omega⟩)
      have hS1 := sv_Solve (m := A) (b := B) (cols := keys.length) hA0 (by omega) (fun r hr => (hAm r hr).1) (fun r hr => (hAm r hr).2) hBm hlB (by omega)
      have hS2 := sv_Solve (m := A) (b := C) (cols := keys.length) hA0 (by omega) (fun r hr => (hAm r hr).1) (fun r hr => (hAm r hr).2) hCm hlC (by omega)
      have hT1 := solR_told (m := A) (b := B) (n := keys.length) (fun r hr => (hAm r hr).1) (by omega)
      have hT2 := solR_told (m := A) (b := C) (n := keys.length) (fun r hr => (hAm r hr).1) (by omega)
      rw [← hA, ← hB, ← hC] at hres
      change TV.pu _ _ = some (.tup [(false, [cUr (solR A B keys.length).2]), (false, [.v (.int .i64 (solR A B keys.length).1)])]) at hS1
      change TV.pu _ _ = some (.tup [(false, [cUr (solR A C keys.length).2]), (false, [.v (.int .i64 (solR A C keys.length).1)])]) at hS2
      obtain ⟨s1, x1, hs1⟩ : ∃ s x, solR A B keys.length = (s, x) := ⟨_, _, rfl⟩
      obtain ⟨s2, x2, hs2⟩ : ∃ s x, solR A C keys.length = (s, x) := ⟨_, _, rfl⟩
      rw [hs1] at hS1 hT1 hres
      rw [hs2] at hS2 hT2 hres
      dsimp only at hS1 hS2 hres
      have htA : List.take A.length (A.map fun r => [CV.arr (r.map cU)]) = A.map fun r => [CV.arr (r.map cU)] := List.take_of_length_le (by simp)
      have htB : List.take A.length (B.map cU) = B.map cU := List.take_of_length_le (by simp [hlB])
      have htC : List.take A.length (C.map cU) = C.map cU := List.take_of_length_le (by simp [hlC])
      simp only [cUm, cUr] at hS1 hS2
      clear hA hB hC hn hw9 hmul hml hwr hno
      by_cases hz1 : s1 = 0
      rotate_left
      · rw [if_pos hz1] at hres
        subst hres
        simp -implicitDefEqProofs [e8, e9, e67, e68, ci', cUr, vmove, isNil, rcha, rch, frzAll, Ent.frz, htA, htB, hlB, hS1, hz1, countsA, cCts]
      subst hz1
      rw [if_neg (by simp)] at hres
      by_cases hz2 : s2 = 0
      rotate_left
      · rw [if_pos hz2] at hres
        subst hres
        simp -implicitDefEqProofs [e8, e9, e10, e67, e68, ci', cUr, vmove, isNil, rcha, rch, frzAll, Ent.frz, htA, htB, htC, hlB, hlC, hS1, hS2, hz2, countsA, cCts]
      subst hz2
      rw [if_neg (by simp)] at hres
      obtain ⟨hx1l, hx1b, _⟩ := hT1.one rfl
      obtain ⟨hx2l, hx2b, _⟩ := hT2.one rfl
      dsimp only at hx1l hx1b hx2l hx2b
      simp -implicitDefEqProofs [e1, e8, e9, e10, e67, e68, ci', cUr, cSs, vmove, isNil, rcha, rch, frzAll, Ent.frz, htA, htB, htC, hlB, hlC, hS1, hS2]
      obtain ⟨W, hW⟩ : ∃ W, (ctsOf keys x1 x2).map cCt = W := ⟨_, rfl⟩
      have hWl : W.length = keys.length := by rw [← hW]; simp [ctsOf]
      have hWe : ∀ e ∈ W, e.length = 3 := by rw [← hW]; intro e he; obtain ⟨y, _, rfl⟩ := List.mem_map.1 he; rfl
      obtain ⟨Z, hZ⟩ : ∃ Z : Nat → St → Prop, ∀ k4 s', Z k4 s' ↔ (∃ e G d i, s' = ⟨e, G⟩ ∧ e 18 = .one (.c (cUr x1)) ∧ e 20 = .one (.c (cUr x2)) ∧ e 21 = .one (.sl d 0 i i) ∧ e 136 = .one (.c (cSs keys)) ∧ e 137 = vI .i64 keys.length ∧ e 138 = vI .i64 (i : Nat) ∧ (i + k4 = keys.length) ∧ (G[d]? = some (.clo (W.take i) false)) ∧ (∀ j, j < i → at0 x1 j ≤ 1099511627776 ∧ at0 x2 j ≤ 1099511627776)) := ⟨_, fun _ _ => Iff.rfl⟩
      refine wpL_ind Z ?_ keys.length _ ((hZ _ _).2 ⟨_, _, L.length + 1 + 1 + 1 + 1 + 1, 0, (by first | rfl | (simp [cSs, cUr]; done) | (simp [cSs, cUr]; rfl) | (simp [cSs, cUr]; and_intros <;> rfl)), by simp [cUr], by simp [cUr], by simp, by simp [cSs], by simp, by simp, by omega, by simp, fun j hj => by omega⟩)
      clear e1 e2 e8 e9 e10 e66 e67 e68
      intro k4 stZ hstZ
      obtain ⟨e, G, d, i, rfl, e18, e20, e21, e136, e137, e138, hi, hG, hsm⟩ := (hZ _ _).1 hstZ
      by_cases ck : i < keys.length
      · have ck' : (i : Int) < keys.length := by omega
        obtain ⟨x, hx⟩ : ∃ x, keys[i] = x := ⟨_, rfl⟩
        have hxi : keys[i]? = some x := by rw [List.getElem?_eq_getElem ck, hx]
        have ha1 : x1[i]? = some (at0 x1 i) := by rw [at0_get (by omega), List.getElem?_eq_getElem]
        have ha2 : x2[i]? = some (at0 x2 i) := by rw [at0_get (by omega), List.getElem?_eq_getElem]
        have hb1 := hx1b (at0 x1 i) (List.mem_of_getElem? ha1)
        have hb2 := hx2b (at0 x2 i) (List.mem_of_getElem? ha2)
        have hWi : W[i]? = some (cCt (x, at0 x1 i, at0 x2 i)) := by
          rw [← hW]
          simp [ctsOf, ck, List.getD_eq_getElem?_getD, hx]
        obtain ⟨y1, hy1⟩ : ∃ y, at0 x1 i = y := ⟨_, rfl⟩
        obtain ⟨y2, hy2⟩ : ∃ y, at0 x2 i = y := ⟨_, rfl⟩
        rw [hy1] at ha1 hb1 hWi
        rw [hy2] at ha2 hb2 hWi
        have hdG := (List.getElem?_eq_some_iff.1 hG).1
        have w_i : IntKind.i64.wrap ((i : Int) + 1) = ((i + 1 : Nat) : Int) := by rw [w64_id (by omega) (by omega)]; omega
        by_cases d1 : 1099511627776 < y1
        · rw [if_pos (bigA_of ck (.inl (by rw [hy1]; exact d1)))] at hres
          subst hres
          simp -implicitDefEqProofs [e18, e136, e137, e138, ck', hxi, ha1, d1, cSs, cStr, cUr, cU, vmove, isNil, countsA, cCts]
        by_cases d2 : 1099511627776 < y2
        · rw [if_pos (bigA_of ck (.inr (by rw [hy2]; exact d2)))] at hres
          subst hres
          simp -implicitDefEqProofs [e18, e20, e136, e137, e138, ck', hxi, ha1, ha2, d1, d2, cSs, cStr, cUr, cU, vmove, isNil, countsA, cCts]
        have hw1 : IntKind.i64.wrap y1 = y1 := w64_id (by omega) (by omega)
        have hw2 : IntKind.i64.wrap y2 = y2 := w64_id (by omega) (by omega)
        have ha3 := vappend_eq (P := Tryz.prog) (H := G ++ [.clo [cCt (x, y1, y2)] false]) (t := 50) (tx := 50) (id := d) (n := i) (l := W.take i) (xs := [cCt (x, y1, y2)]) (x := .one (.sl G.length 0 1 1)) es50 es50 el63
          (by rw [List.getElem?_append_left hdG]; exact hG) (by simp [elemsOf]) (by simp; omega) (by intro e he; exact hWe e (List.mem_of_mem_take he)) (by simp [cCt]) (by simp only [List.length_singleton]; omega) (by simp only [List.length_singleton]; omega)
        have hN3 : W.take i ++ [cCt (x, y1, y2)] = W.take (i + 1) := by
          rw [List.take_add_one, hWi]; rfl
        rw [hN3] at ha3
        obtain ⟨G2, hG2⟩ : ∃ G2, (G ++ [Ent.clo [cCt (x, y1, y2)] false]).set d (.clo (W.take (i + 1)) false) = G2 := ⟨_, rfl⟩
        have hG2d : G2[d]? = some (.clo (W.take (i + 1)) false) := by
          rw [← hG2]; exact set_self (e0 := _) (by rw [List.getElem?_append_left hdG]; exact hG)
        rw [hG2] at ha3
        simp only [cCt, List.length_singleton] at ha3
        have hsm2 : ∀ j, j < i + 1 → at0 x1 j ≤ 1099511627776 ∧ at0 x2 j ≤ 1099511627776 := fun j hj => by
          by_cases e : j = i
          · subst e; rw [hy1, hy2]; omega
          · exact hsm j (by omega)
        simp -implicitDefEqProofs [e18, e20, e21, e136, e137, e138, ck', hxi, ha1, ha2, d1, d2, hw1, hw2, ha3, cSs, cStr, cUr, cU, vmove, isNil, cellsOf?, fzParts, setAll, rchParts, rch, vbuildSlice_eq es50 el63, wr]
        exact ⟨(k4 - 1), by omega, (hZ _ _).2 ⟨_, G2, d, i + 1, (by first | rfl | (simp [e18, e20, e136, e137, w_i, cSs, cStr, cUr, cU]; done) | (simp [e18, e20, e136, e137, w_i, cSs, cStr, cUr, cU]; rfl) | (simp [e18, e20, e136, e137, w_i, cSs, cStr, cUr, cU]; and_intros <;> rfl)), by simp [e18, w_i, cUr], by simp [e20, w_i, cUr], by simp [w_i], by simp [e136, w_i, cSs], by simp [e137, w_i], by simp [w_i], by omega, hG2d, hsm2⟩⟩
      · have ck' : ¬ (i : Int) < keys.length := by omega
        have hi' : i = keys.length := by omega
        subst hi'
        have hbf : ¬ bigA keys.length x1 x2 = true := fun h => by
          unfold bigA at h
          obtain ⟨j, hj, h⟩ := List.any_eq_true.1 h
          have := hsm j (List.mem_range.1 hj)
          simp at h
          omega
        rw [if_neg hbf] at hres
        subst hres
        rw [← hWl, List.take_length] at hG
        have hG' : G[d]? = some (.clo W false) := hG
        have htW : List.take keys.length W = W := List.take_of_length_le (by omega)
        simp -implicitDefEqProofs [e21, e137, e138, ck', hG', hWl, htW, vmove, isNil, countsA, cCts, hW]
end Go.Proofs.YtmgnmnogiajlgaaGreatF
end

section
/- The document's solver: numbers and rows. -/
set_option maxRecDepth 8192
set_option maxHeartbeats 2000000
namespace Go.Proofs.YtmgnmnogiajlgaaGreatF
open Go Go.Proofs.Vm Go.Proofs.Vm.Fld

theorem r1_Sub {a b : Int} (h0 : 0 ≤ a) (_h1 : a < 18446744073709551616) (h2 : 0 ≤ b) (_h3 : b < 18446744073709551616) : TV.pu 127 [cI .u64 a, cI .u64 b] = some (cI .u64 ((a - b) % 2305843009213693951)) := by
  refine run127 (by simp) ?_
  have e0 : a.tmod 2305843009213693951 = a % 2305843009213693951 := Int.tmod_eq_emod_of_nonneg h0
  have e0' : b.tmod 2305843009213693951 = b % 2305843009213693951 := Int.tmod_eq_emod_of_nonneg h2
  have e1 : IntKind.u64.wrap (a % 2305843009213693951) = a % 2305843009213693951 := u64_id (by omega) (by omega)
  have e1' : IntKind.u64.wrap (b % 2305843009213693951) = b % 2305843009213693951 := u64_id (by omega) (by omega)
  have e2 : IntKind.u64.wrap (a % 2305843009213693951 + 2305843009213693951) = a % 2305843009213693951 + 2305843009213693951 := u64_id (by omega) (by omega)
  have e3 : IntKind.u64.wrap (a % 2305843009213693951 + 2305843009213693951 - b % 2305843009213693951) = a % 2305843009213693951 + 2305843009213693951 - b % 2305843009213693951 := u64_id (by omega) (by omega)
  have e4 : (a % 2305843009213693951 + 2305843009213693951 - b % 2305843009213693951).tmod 2305843009213693951 = (a - b) % 2305843009213693951 := by rw [Int.tmod_eq_emod_of_nonneg (by omega)]; omega
  have e5 : IntKind.u64.wrap ((a - b) % 2305843009213693951) = (a - b) % 2305843009213693951 := u64_id (by omega) (by omega)
  simp -implicitDefEqProofs [Tryz.f127, bin_rem, e0, e0', e2, e3, e4]
theorem r3_inverse {a : Int} (h0 : 0 ≤ a) (h1 : a < 18446744073709551616) : TV.pu 126 [cI .u64 a] = some (cI .u64 (invF a)) := by
  refine run126 (by simp) ?_
  have hP := r1_Pow (x := a) h0 h1 (E61 + 1) E61 (by omega) (by rw [E61_val]; omega)
  rw [E61_val] at hP
  have hi : a ^ E61 % 2305843009213693951 = invF a := rfl
  rw [hi] at hP
  obtain ⟨v, hv⟩ : ∃ v, invF a = v := ⟨_, rfl⟩
  rw [hv] at hP ⊢
  simp -implicitDefEqProofs [Tryz.f126, hP]
/-- Rows of numbers below the prime. -/
def RedR (r : List Int) : Prop := ∀ n ∈ r, 0 ≤ n ∧ n < 2305843009213693951
theorem fst_at {r : List Int} {i : Nat} (hi : i < r.length) (h : r[i] ≠ 0) (hz : ∀ j (hj : j < r.length), j < i → r[j] = 0) : fst r = i :=
  fst_unique (by omega) (fun j hj => by rw [at0_get (by omega)]; exact hz j (by omega) hj) fun _ => by rw [at0_get hi]; exact h
theorem r3_first {r : List Int} (hr : RedR r) (hl : r.length ≤ 1000) : TV.pu 110 [.one (cUr r)] = some (cI .i64 (fst r : Nat)) := by
  refine run110 (by simp) ?_
  obtain ⟨res, hres⟩ : ∃ res, fst r = res := ⟨_, rfl⟩
  rw [hres]
  simp -implicitDefEqProofs [Tryz.f110, cUr, vmove, isNil]
  obtain ⟨I, hI⟩ : ∃ I : Nat → St → Prop, ∀ k s', I k s' ↔ (∃ e G i, s' = ⟨e, G⟩ ∧ e 0 = .one (.c (cUr r)) ∧ e 3 = vI .i64 (i : Nat) ∧ (i + k = r.length) ∧ (∀ j (hj : j < r.length), j < i → r[j] = 0)) := ⟨_, fun _ _ => Iff.rfl⟩
  refine wpL_ind I ?_ r.length _ ((hI _ _).2 ⟨_, _, 0, (by first | rfl | (simp [cUr]; done) | (simp [cUr]; rfl) | (simp [cUr]; and_intros <;> rfl)), by simp [cUr], by simp, by omega, fun j hj hji => by omega⟩)
  intro k stI hstI
  obtain ⟨e, G, i, rfl, e0, e3, hi, hz⟩ := (hI _ _).1 hstI
  by_cases c : i < r.length
  · have c' : (i : Int) < r.length := by omega
    obtain ⟨x, hx⟩ : ∃ x, r[i] = x := ⟨_, rfl⟩
    have hxi : r[i]? = some x := by rw [List.getElem?_eq_getElem c, hx]
    have hb := hr x (hx ▸ List.getElem_mem c)
    have hO := r1_Of (a := x) hb.1 (by omega)
    rw [Int.emod_eq_of_lt hb.1 hb.2] at hO
    have w_i : IntKind.i64.wrap ((i : Int) + 1) = ((i + 1 : Nat) : Int) := by rw [w64_id (by omega) (by omega)]; omega
    by_cases h0 : x = 0
    · have hz2 : ∀ j (hj : j < r.length), j < i + 1 → r[j] = 0 := fun j hj hji => by
        by_cases e : j = i
        · subst e; rw [hx]; exact h0
        · exact hz j hj (by omega)
      subst h0
      simp -implicitDefEqProofs [e0, e3, c', hxi, cUr, cU, hO, vmove, isNil]
      exact ⟨(k - 1), by omega, (hI _ _).2 ⟨_, _, i + 1, (by first | rfl | (simp [e0, w_i, cUr]; done) | (simp [e0, w_i, cUr]; rfl) | (simp [e0, w_i, cUr]; and_intros <;> rfl)), by simp [e0, w_i, cUr], by simp [w_i], by omega, hz2⟩⟩
    · have : fst r = i := fst_at c (by rw [hx]; exact h0) hz
      rw [← hres, this]
      simp -implicitDefEqProofs [e0, e3, c', hxi, cUr, cU, hO, h0, vmove, isNil]
  · have c' : ¬ (i : Int) < r.length := by omega
    have : fst r = r.length := fst_unique (Nat.le_refl _) (fun j hj => by rw [at0_get hj]; exact hz j hj (by omega)) fun h => by omega
    rw [← hres, this]
    simp -implicitDefEqProofs [e0, e3, c', cUr, vmove, isNil]
/-- Of two rows the first so many steps of the second one. -/
theorem elm_red {f : Int} {b r : List Int} : RedR (elm PP f b r) := fun n hn => by
  obtain ⟨i, hi, rfl⟩ := List.getElem_of_mem hn
  simp only [elm, List.getElem_zipWith]
  exact ⟨Int.emod_nonneg _ (by decide), Int.emod_lt_of_pos _ (by decide)⟩
theorem lessF_red {r : List Int} (hr : RedR r) : ∀ {base : List (List Int)}, RedR (lessF PP invF r base) := fun {base} => by
  unfold lessF
  rw [← List.foldr_reverse]
  cases base.reverse with
  | nil => exact hr
  | cons b t => exact elm_red
theorem lessF_snoc (r b : List Int) (base : List (List Int)) : lessF PP invF r (base ++ [b]) = lesS PP invF (lessF PP invF r base) b := by simp [lessF]
theorem lesS_len {out b : List Int} (h : out.length = b.length) : (lesS PP invF out b).length = out.length := elm_len PP _ h
end Go.Proofs.YtmgnmnogiajlgaaGreatF
end

section
/- The document's solver: wide rows, products, likeness. -/
set_option maxRecDepth 8192
set_option maxHeartbeats 2000000
namespace Go.Proofs.YtmgnmnogiajlgaaGreatF
open Go Go.Proofs.Vm Go.Proofs.Vm.Fld

theorem mul_red (a b : Int) : 0 ≤ a * b % 2305843009213693951 ∧ a * b % 2305843009213693951 < 2305843009213693951 := ⟨Int.emod_nonneg _ (by decide), Int.emod_lt_of_pos _ (by decide)⟩
theorem get_app {G : Hp} {i : Nat} {e : Ent} (T : Hp) (h : G[i]? = some e) : (G ++ T)[i]? = some e := by rw [List.getElem?_append_left (List.getElem?_eq_some_iff.1 h).1]; exact h
/-- A row more behind rows. -/
theorem ap_um {G : Hp} {d n : Nat} {B : List (List Int)} (x : List Int) (g : G[d]? = some (.clo (B.map fun r => [cUr r]) false)) (hn : B.length = n) (hl : n ≤ 100000) :
    vappend Tryz.prog (G ++ [Ent.clo [[cUr x]] false]) 56 56 (.one (.sl d 0 n n)) (.one (.sl G.length 0 1 1)) = some (.one (.sl d 0 (n + 1) (n + 1)), (G ++ [Ent.clo [[cUr x]] false]).set d (Ent.clo ((B ++ [x]).map fun r => [cUr r]) false)) := by
  have gl := (List.getElem?_eq_some_iff.1 g).1
  have ha := vappend_eq (P := Tryz.prog) (H := G ++ [.clo [[cUr x]] false]) (t := 56) (tx := 56) (id := d) (n := n) (l := B.map fun r => [cUr r]) (xs := [[cUr x]]) (x := .one (.sl G.length 0 1 1)) es56 es56 el57
    (by rw [List.getElem?_append_left gl]; exact g) (by simp [elemsOf]) (by simpa using hn) (by intro e he; obtain ⟨y, -, rfl⟩ := List.mem_map.1 he; rfl) (by simp) (by simp only [List.length_singleton]; omega) (by simp only [List.length_singleton]; omega)
  rw [List.map_append]
  exact ha
/-- A number more behind numbers. -/
theorem ap_ur {G : Hp} {d n : Nat} {B : List Int} (x : Int) (g : G[d]? = some (.clo (B.map cU) false)) (hn : B.length = n) (hl : n ≤ 100000) :
    vappend Tryz.prog (G ++ [Ent.clo [cU x] false]) 57 57 (.one (.sl d 0 n n)) (.one (.sl G.length 0 1 1)) = some (.one (.sl d 0 (n + 1) (n + 1)), (G ++ [Ent.clo [cU x] false]).set d (Ent.clo ((B ++ [x]).map cU) false)) := by
  have gl := (List.getElem?_eq_some_iff.1 g).1
  have ha := vappend_eq (P := Tryz.prog) (H := G ++ [.clo [cU x] false]) (t := 57) (tx := 57) (id := d) (n := n) (l := B.map cU) (xs := [cU x]) (x := .one (.sl G.length 0 1 1)) es57 es57 el37
    (by rw [List.getElem?_append_left gl]; exact g) (by simp [elemsOf]) (by simpa using hn) (by intro e he; obtain ⟨y, -, rfl⟩ := List.mem_map.1 he; rfl) (by simp [cU]) (by simp only [List.length_singleton]; omega) (by simp only [List.length_singleton]; omega)
  rw [List.map_append]
  exact ha
theorem r3_Wide {m : List (List Int)} {b : List Int} (hbl : b.length = m.length) (hm : m.length ≤ 1000) (hw : ∀ r ∈ m, r.length ≤ 1000) : TV.pu 43 [.one (cUm m), .one (cUr b)] = some (.one (cUm (wideR m b))) := by
  refine run43 (by simp) ?_
  obtain ⟨W, hW⟩ : ∃ W, wideR m b = W := ⟨_, rfl⟩
  have hWl : W.length = m.length := by rw [← hW]; simp [wideR, hbl]
  rw [hW]
  simp -implicitDefEqProofs [Tryz.f43, cUr, cUm, vmove, isNil]
  obtain ⟨I, hI⟩ : ∃ I : Nat → St → Prop, ∀ k s', I k s' ↔ (∃ e G d i, s' = ⟨e, G⟩ ∧ e 0 = .one (.c (cUm m)) ∧ e 1 = .one (.c (cUr b)) ∧ e 5 = .one (.sl d 0 i i) ∧ e 6 = vI .i64 (i : Nat) ∧ (i + k = m.length) ∧ (G[d]? = some (.clo ((W.take i).map fun r => [cUr r]) false))) := ⟨_, fun _ _ => Iff.rfl⟩
  refine wpL_ind I ?_ m.length _ ((hI _ _).2 ⟨_, _, 1, 0, (by first | rfl | (simp [cUr, cUm]; done) | (simp [cUr, cUm]; rfl) | (simp [cUr, cUm]; and_intros <;> rfl)), by simp [cUr, cUm], by simp [cUr], by simp, by simp, by omega, rfl⟩)
  intro k stI hstI
  obtain ⟨e, G, d, i, rfl, e0, e1, e5, e6, hi, hG⟩ := (hI _ _).1 hstI
  by_cases c : i < m.length
  rotate_left
  · have c' : ¬ (i : Int) < m.length := by omega
    have hi' : i = m.length := by omega
    rw [List.take_of_length_le (by omega)] at hG
    have hT : (List.map (fun r => [CV.arr (List.map cU r)]) W).take i = List.map (fun r => [CV.arr (List.map cU r)]) W := List.take_of_length_le (by simp; omega)
    have hWi : W.length = i := by omega
    simp -implicitDefEqProofs [e0, e5, e6, c', hG, hT, hWi, cUr, cUm, vmove, isNil]
  have c' : (i : Int) < m.length := by omega
  obtain ⟨r, hr⟩ : ∃ r, m[i] = r := ⟨_, rfl⟩
  have hri : m[i]? = some r := by rw [List.getElem?_eq_getElem c, hr]
  obtain ⟨x, hx⟩ : ∃ x, b[i]'(by omega) = x := ⟨_, rfl⟩
  have hxi : b[i]? = some x := by rw [List.getElem?_eq_getElem (by omega), hx]
  have hrl := hw r (hr ▸ List.getElem_mem c)
  have hWi : W[i]? = some (r ++ [x]) := by rw [← hW]; simp [wideR, hri, hxi, List.getElem?_zipWith]
  have w_i : IntKind.i64.wrap ((i : Int) + 1) = ((i + 1 : Nat) : Int) := by rw [w64_id (by omega) (by omega)]; omega
  have gl := (List.getElem?_eq_some_iff.1 hG).1
  have ha1 := vappend_eq (P := Tryz.prog) (H := G ++ [.clo [] false]) (t := 57) (tx := 57) (id := G.length) (n := 0) (l := []) (xs := r.map cU) (x := .one (.c (cUr r))) es57 es57 el37
    (by simp) rfl rfl (by simp) (by intro e he; obtain ⟨c, -, rfl⟩ := List.mem_map.1 he; rfl) (by simp only [List.length_map]; omega) (by simp only [List.length_map]; omega)
  simp [cUr] at ha1
  have ha2 := vappend_eq (P := Tryz.prog) (H := G ++ [.clo (r.map cU) false]) (t := 57) (tx := 57) (id := G.length) (n := r.length) (l := r.map cU) (xs := [cU x]) (x := .one (.c (.arr [cU x]))) es57 es57 el37
    (by simp) rfl (by simp) (by intro e he; obtain ⟨c, -, rfl⟩ := List.mem_map.1 he; rfl) (by simp [cU]) (by simp only [List.length_singleton]; omega) (by simp only [List.length_singleton]; omega)
  simp [cU] at ha2
  obtain ⟨rx, hrx⟩ : ∃ rx, r ++ [x] = rx := ⟨_, rfl⟩
  rw [hrx] at hWi
  have hrx2 : rx.length = r.length + 1 := by rw [← hrx]; simp
  have hT : List.take (r.length + 1) (rx.map cU) = rx.map cU := List.take_of_length_le (by simp; omega)
  have hT2 : r.map cU ++ [[CV.v (Value.int .u64 x)]] = rx.map cU := by rw [← hrx, List.map_append]; rfl
  have ha3 := vappend_eq (P := Tryz.prog) (H := G ++ [.clo (rx.map cU) true, .clo [[.arr (rx.map cU)]] false]) (t := 56) (tx := 56) (id := d) (n := i) (l := (W.take i).map fun r => [cUr r]) (xs := [[.arr (rx.map cU)]]) (x := .one (.sl (G.length + 1) 0 1 1)) es56 es56 el57
    (by rw [List.getElem?_append_left gl]; exact hG) (by simp [elemsOf]) (by simp; omega) (by intro e he; obtain ⟨y, -, rfl⟩ := List.mem_map.1 he; rfl) (by simp) (by simp only [List.length_singleton]; omega) (by simp only [List.length_singleton]; omega)
  obtain ⟨G2, hG2⟩ : ∃ G2, (G ++ [Ent.clo (rx.map cU) true, .clo [[.arr (rx.map cU)]] false]).set d (.clo (((W.take i).map fun r => [cUr r]) ++ [[.arr (rx.map cU)]]) false) = G2 := ⟨_, rfl⟩
  have g2 : G2[d]? = some (.clo ((W.take (i + 1)).map fun r => [cUr r]) false) := by
    rw [← hG2, List.take_add_one, hWi, List.map_append]
    exact set_self (e0 := _) (by rw [List.getElem?_append_left gl]; exact hG)
  rw [hG2] at ha3
  simp only [List.length_singleton] at ha3
  simp -implicitDefEqProofs [e0, e1, e5, e6, c', hri, hxi, cUr, cUm, cU, vmove, isNil, ha1, cellsOf?, nrm, fzParts, setAll, rchParts, rch, frzAll, Ent.frz, vbuildC_eq es57 el37, vbuildSlice_eq es56 el57, ha2, hT, hT2, hrx2, ha3]
  exact ⟨(k - 1), by omega, (hI _ _).2 ⟨_, G2, d, i + 1, (by first | rfl | (simp [e0, e1, w_i, cUr, cUm]; done) | (simp [e0, e1, w_i, cUr, cUm]; rfl) | (simp [e0, e1, w_i, cUr, cUm]; and_intros <;> rfl)), by simp [e0, w_i, cUr, cUm], by simp [e1, w_i, cUr], by simp [w_i], by simp [w_i], by omega, g2⟩⟩
theorem r3_Same {a b : List Int} (ha : ∀ n ∈ a, 0 ≤ n ∧ n < 18446744073709551616) (hb : ∀ n ∈ b, 0 ≤ n ∧ n < 18446744073709551616) (hl : a.length ≤ 4611686018427387904) : TV.pu 44 [.one (cUr a), .one (cUr b)] = some (cB (decide (redR a = redR b))) := by
  refine run44 (by simp) ?_
  obtain ⟨res, hres⟩ : ∃ res, decide (redR a = redR b) = res := ⟨_, rfl⟩
  rw [hres]
  by_cases hab : a.length = b.length
  rotate_left
  · have h1 : ((a.length : Int) != (b.length : Int)) = true := by simp; omega
    have h2 : res = false := by
      rw [← hres, decide_eq_false]
      intro h
      exact hab (by simpa [redR] using congrArg List.length h)
    rw [h2]
    simp -implicitDefEqProofs [Tryz.f44, cUr, h1, vmove, isNil]
  have h1 : ((a.length : Int) != (b.length : Int)) = false := by simp; omega
  simp -implicitDefEqProofs [Tryz.f44, cUr, h1, vmove, isNil]
  obtain ⟨I, hI⟩ : ∃ I : Nat → St → Prop, ∀ k s', I k s' ↔ (∃ e G i, s' = ⟨e, G⟩ ∧ e 0 = .one (.c (cUr a)) ∧ e 1 = .one (.c (cUr b)) ∧ e 5 = vI .i64 (i : Nat) ∧ (i + k = a.length) ∧ (∀ j, j < i → (redR a)[j]? = (redR b)[j]?)) := ⟨_, fun _ _ => Iff.rfl⟩
  refine wpL_ind I ?_ a.length _ ((hI _ _).2 ⟨_, _, 0, (by first | rfl | (simp [cUr]; done) | (simp [cUr]; rfl) | (simp [cUr]; and_intros <;> rfl)), by simp [cUr], by simp [cUr], by simp, by omega, fun j hj => by omega⟩)
  intro k stI hstI
  obtain ⟨e, G, i, rfl, e0, e1, e5, hi, hs⟩ := (hI _ _).1 hstI
  by_cases c : i < a.length
  rotate_left
  · have c' : ¬ (i : Int) < a.length := by omega
    have h2 : res = true := by
      rw [← hres, decide_eq_true_eq]
      apply List.ext_getElem? 
      intro j
      by_cases hj : j < i
      · exact hs j hj
      · rw [List.getElem?_eq_none (by simp [redR]; omega), List.getElem?_eq_none (by simp [redR]; omega)]
    rw [h2]
    simp -implicitDefEqProofs [e0, e5, c', cUr, vmove, isNil]
  have c' : (i : Int) < a.length := by omega
  obtain ⟨x, hx⟩ : ∃ x, a[i] = x := ⟨_, rfl⟩
  have hxi : a[i]? = some x := by rw [List.getElem?_eq_getElem c, hx]
  obtain ⟨y, hy⟩ : ∃ y, b[i]'(by omega) = y := ⟨_, rfl⟩
  have hyi : b[i]? = some y := by rw [List.getElem?_eq_getElem (by omega), hy]
  have x01 := ha x (hx ▸ List.getElem_mem c)
  have y01 := hb y (hy ▸ List.getElem_mem _)
  have hO1 := r1_Of x01.1 x01.2
  have hO2 := r1_Of y01.1 y01.2
  have g1 : (redR a)[i]? = some (x % 2305843009213693951) := by simp [redR, hxi]
  have g2 : (redR b)[i]? = some (y % 2305843009213693951) := by simp [redR, hyi]
  obtain ⟨u, hu⟩ : ∃ u, x % 2305843009213693951 = u := ⟨_, rfl⟩
  obtain ⟨v, hv⟩ : ∃ v, y % 2305843009213693951 = v := ⟨_, rfl⟩
  rw [hu] at hO1 g1
  rw [hv] at hO2 g2
  have w_i : IntKind.i64.wrap ((i : Int) + 1) = ((i + 1 : Nat) : Int) := by rw [w64_id (by omega) (by omega)]; omega
  by_cases huv : u = v
  · subst huv
    simp -implicitDefEqProofs [e0, e1, e5, c', hxi, hyi, hO1, hO2, cUr, cU, vmove, isNil]
    have hs2 : ∀ j, j < i + 1 → (redR a)[j]? = (redR b)[j]? := fun j hj => by
      by_cases e : j = i
      · rw [e, g1, g2]
      · exact hs j (by omega)
    exact ⟨(k - 1), by omega, (hI _ _).2 ⟨_, _, i + 1, (by first | rfl | (simp [e0, e1, w_i, cUr]; done) | (simp [e0, e1, w_i, cUr]; rfl) | (simp [e0, e1, w_i, cUr]; and_intros <;> rfl)), by simp [e0, w_i, cUr], by simp [e1, w_i, cUr], by simp [w_i], by omega, hs2⟩⟩
  · have h2 : res = false := by
      rw [← hres, decide_eq_false]
      intro h
      rw [h, g2] at g1
      exact huv (Option.some.inj g1).symm
    rw [h2]
    simp -implicitDefEqProofs [e0, e1, e5, c', hxi, hyi, hO1, hO2, huv, cUr, cU, vmove, isNil]
end Go.Proofs.YtmgnmnogiajlgaaGreatF
end

section
/- The document's solver: sums of products; keys that are right. -/
set_option maxRecDepth 8192
set_option maxHeartbeats 2000000
namespace Go.Proofs.YtmgnmnogiajlgaaGreatF
open Go Go.Proofs.Vm Go.Proofs.Vm.Fld

def timesF (m : List (List Int)) (x : List Int) : List Int := m.map fun r => dot r x % 2305843009213693951
theorem r3_Times {m : List (List Int)} {x : List Int} (hw : ∀ r ∈ m, r.length = x.length ∧ ∀ n ∈ r, 0 ≤ n ∧ n < 18446744073709551616) (hx : ∀ n ∈ x, 0 ≤ n ∧ n < 18446744073709551616) (hm : m.length ≤ 1000) (hxl : x.length ≤ 1000) : TV.pu 45 [.one (cUm m), .one (cUr x)] = some (.one (cUr (timesF m x))) := by
  refine run45 (by simp) ?_
  obtain ⟨W, hW⟩ : ∃ W, timesF m x = W := ⟨_, rfl⟩
  have hWl : W.length = m.length := by rw [← hW]; simp [timesF]
  rw [hW]
  simp -implicitDefEqProofs [Tryz.f45, cUr, cUm, vmove, isNil]
  obtain ⟨I, hI⟩ : ∃ I : Nat → St → Prop, ∀ k s', I k s' ↔ (∃ e G d i, s' = ⟨e, G⟩ ∧ e 0 = .one (.c (cUm m)) ∧ e 1 = .one (.c (cUr x)) ∧ e 5 = .one (.sl d 0 i i) ∧ e 6 = vI .i64 (i : Nat) ∧ (i + k = m.length) ∧ (G[d]? = some (.clo ((W.take i).map cU) false))) := ⟨_, fun _ _ => Iff.rfl⟩
  refine wpL_ind I ?_ m.length _ ((hI _ _).2 ⟨_, _, 1, 0, (by first | rfl | (simp [cUr, cUm]; done) | (simp [cUr, cUm]; rfl) | (simp [cUr, cUm]; and_intros <;> rfl)), by simp [cUr, cUm], by simp [cUr], by simp, by simp, by omega, rfl⟩)
  intro k stI hstI
  obtain ⟨e, G, d, i, rfl, e0, e1, e5, e6, hi, hG⟩ := (hI _ _).1 hstI
  by_cases c : i < m.length
  rotate_left
  · have c' : ¬ (i : Int) < m.length := by omega
    have hi' : i = m.length := by omega
    rw [List.take_of_length_le (by omega)] at hG
    have hT : (List.map cU W).take i = List.map cU W := List.take_of_length_le (by simp; omega)
    have hWi : W.length = i := by omega
    simp -implicitDefEqProofs [e0, e5, e6, c', hG, hT, hWi, cUr, cUm, vmove, isNil]
  have c' : (i : Int) < m.length := by omega
  obtain ⟨r, hr⟩ : ∃ r, m[i] = r := ⟨_, rfl⟩
  have hri : m[i]? = some r := by rw [List.getElem?_eq_getElem c, hr]
  obtain ⟨hrl, hrn⟩ := hw r (hr ▸ List.getElem_mem c)
  have hWi : W[i]? = some (dot r x % 2305843009213693951) := by rw [← hW]; simp [timesF, hri]
  rw [dot_sum x.length r x (by omega)] at hWi
  have w_i : IntKind.i64.wrap ((i : Int) + 1) = ((i + 1 : Nat) : Int) := by rw [w64_id (by omega) (by omega)]; omega
  simp -implicitDefEqProofs [e0, e6, c', cUr, cUm, vmove, isNil]
  obtain ⟨J, hJ⟩ : ∃ J : Nat → St → Prop, ∀ k2 s', J k2 s' ↔ (∃ e q s, s' = ⟨e, G⟩ ∧ e 0 = .one (.c (cUm m)) ∧ e 1 = .one (.c (cUr x)) ∧ e 5 = .one (.sl d 0 i i) ∧ e 6 = vI .i64 (i : Nat) ∧ e 7 = .one (.c (.v (.int .u64 s))) ∧ e 8 = vI .i64 (q : Nat) ∧ (q + k2 = x.length) ∧ (s = sumTo (fun j => at0 r j * at0 x j) q % 2305843009213693951)) := ⟨_, fun _ _ => Iff.rfl⟩
  refine wpL_ind J ?_ x.length _ ((hJ _ _).2 ⟨_, 0, 0, (by first | rfl | (simp [e0, e1, e5, e6, cUr, cUm]; done) | (simp [e0, e1, e5, e6, cUr, cUm]; rfl) | (simp [e0, e1, e5, e6, cUr, cUm]; and_intros <;> rfl)), by simp [e0, cUr, cUm], by simp [e1, cUr], by simp [e5], by simp [e6], by simp, by simp, by omega, rfl⟩)
  clear e0 e1 e5 e6
  intro k2 stJ hstJ
  obtain ⟨e, q, s, rfl, e0, e1, e5, e6, e7, e8, hq, hs⟩ := (hJ _ _).1 hstJ
  have s01 : 0 ≤ s ∧ s < 2305843009213693951 := by rw [hs]; exact ⟨Int.emod_nonneg _ (by decide), Int.emod_lt_of_pos _ (by decide)⟩
  by_cases cq : q < x.length
  · have cq' : (q : Int) < x.length := by omega
    obtain ⟨u, hu⟩ : ∃ u, r[q]'(by omega) = u := ⟨_, rfl⟩
    obtain ⟨v, hv⟩ : ∃ v, x[q] = v := ⟨_, rfl⟩
    have hui : r[q]? = some u := by rw [List.getElem?_eq_getElem (by omega), hu]
    have hvi : x[q]? = some v := by rw [List.getElem?_eq_getElem cq, hv]
    have u01 := hrn u (hu ▸ List.getElem_mem _)
    have v01 := hx v (hv ▸ List.getElem_mem _)
    have hM := r1_Mul u01.1 u01.2 v01.1 v01.2
    have m01 := mul_red u v
    obtain ⟨w, hwe⟩ : ∃ w, u * v % 2305843009213693951 = w := ⟨_, rfl⟩
    rw [hwe] at hM m01
    have hA := r1_Add (a := s) (b := w) s01.1 (by omega) m01.1 (by omega)
    obtain ⟨z, hz⟩ : ∃ z, (s + w) % 2305843009213693951 = z := ⟨_, rfl⟩
    rw [hz] at hA
    have hs2 : z = sumTo (fun j => at0 r j * at0 x j) (q + 1) % 2305843009213693951 := by
      rw [← hz, hs, ← hwe, ← Int.add_emod]
      show _ = (sumTo (fun j => at0 r j * at0 x j) q + at0 r q * at0 x q) % _
      rw [at0_get (by omega), at0_get cq, hu, hv]
    have w_q : IntKind.i64.wrap ((q : Int) + 1) = ((q + 1 : Nat) : Int) := by rw [w64_id (by omega) (by omega)]; omega
    simp -implicitDefEqProofs [e0, e1, e6, e7, e8, cq', hri, hui, hvi, hM, hA, cUr, cUm, cU, vmove, isNil]
    exact ⟨(k2 - 1), by omega, (hJ _ _).2 ⟨_, q + 1, z, (by first | rfl | (simp [e0, e1, e5, e6, w_q, cUr, cUm]; done) | (simp [e0, e1, e5, e6, w_q, cUr, cUm]; rfl) | (simp [e0, e1, e5, e6, w_q, cUr, cUm]; and_intros <;> rfl)), by simp [e0, w_q, cUr, cUm], by simp [e1, w_q, cUr], by simp [e5, w_q], by simp [e6, w_q], by simp [w_q], by simp [w_q], by omega, hs2⟩⟩
  · have cq' : ¬ (q : Int) < x.length := by omega
    have hqe : q = x.length := by omega
    rw [hqe] at hs
    rw [← hs] at hWi
    have gl := (List.getElem?_eq_some_iff.1 hG).1
    have ha := ap_ur s hG (by simp; omega : (W.take i).length = i) (by omega)
    obtain ⟨G2, hG2⟩ : ∃ G2, (G ++ [Ent.clo [cU s] false]).set d (.clo ((W.take i ++ [s]).map cU) false) = G2 := ⟨_, rfl⟩
    have g2 : G2[d]? = some (.clo ((W.take (i + 1)).map cU) false) := by
      rw [← hG2, List.take_add_one, hWi]
      exact set_self (e0 := _) (by rw [List.getElem?_append_left gl]; exact hG)
    rw [hG2] at ha
    simp only [cU] at ha
    simp -implicitDefEqProofs [e1, e5, e6, e7, e8, cq', cUr, vmove, isNil, cellsOf?, nrm, fzParts, setAll, rchParts, rch, vbuildSlice_eq es57 el37, ha]
    exact ⟨(k - 1), by omega, (hI _ _).2 ⟨_, G2, d, i + 1, (by first | rfl | (simp [e0, e1, w_i, cUr, cUm]; done) | (simp [e0, e1, w_i, cUr, cUm]; rfl) | (simp [e0, e1, w_i, cUr, cUm]; and_intros <;> rfl)), by simp [e0, w_i, cUr, cUm], by simp [e1, w_i, cUr], by simp [w_i], by simp [w_i], by omega, g2⟩⟩
theorem r17_Right {keys : List ByteArray} (hl : keys.length < 4611686018427387904) : TV.pu 16 [.one (cSs keys)] = some (cB (keysOk keys)) := by
  refine run16 (by simp) ?_
  obtain ⟨res, hres⟩ : ∃ res, keysOk keys = res := ⟨_, rfl⟩
  rw [hres]
  simp -implicitDefEqProofs [Tryz.f16, cSs, vmove, isNil]
  obtain ⟨I, hI⟩ : ∃ I : Nat → St → Prop, ∀ k s', I k s' ↔ (∃ e G i, s' = ⟨e, G⟩ ∧ e 0 = .one (.c (cSs keys)) ∧ e 3 = vI .i64 (i : Nat) ∧ (i + k = keys.length) ∧ (∀ j, j < i → keyOk keys j = true)) := ⟨_, fun _ _ => Iff.rfl⟩
  refine wpL_ind I ?_ keys.length _ ((hI _ _).2 ⟨_, _, 0, (by first | rfl | (simp [cSs]; done) | (simp [cSs]; rfl) | (simp [cSs]; and_intros <;> rfl)), by simp [cSs], by simp, by omega, fun j hj => by omega⟩)
  intro k stI hstI
  obtain ⟨e, G, i, rfl, e0, e3, hi, hno⟩ := (hI _ _).1 hstI
  by_cases c : i < keys.length
  rotate_left
  · have c' : ¬ (i : Int) < keys.length := by omega
    have h1 : keysOk keys = true := keysOk_iff.2 fun j hj => hno j (by omega)
    rw [← hres, h1]
    simp -implicitDefEqProofs [e0, e3, c', cSs, vmove, isNil]
  have c' : (i : Int) < keys.length := by omega
  have w_i : IntKind.i64.wrap ((i : Int) + 1) = ((i + 1 : Nat) : Int) := by rw [w64_id (by omega) (by omega)]; omega
  obtain ⟨x, hx⟩ : ∃ x, keys[i] = x := ⟨_, rfl⟩
  have hxi : keys[i]? = some x := by rw [List.getElem?_eq_getElem c, hx]
  have hg : keys.getD i ByteArray.empty = x := by rw [List.getD_eq_getElem?_getD, hxi]; rfl
  have hbad : keyOk keys i = false → res = false := fun h => by rw [← hres]; exact keyOk_hit c h
  have hgood : keyOk keys i = true → ∀ j, j < i + 1 → keyOk keys j = true := fun h j hj => by
    by_cases e : j = i
    · rw [e]; exact h
    · exact hno j (by omega)
  unfold keyOk at hbad hgood
  rw [hg] at hbad hgood
  by_cases h37 : x.size = 37
  · have h37' : (x.size : Int) = 37 := by omega
    by_cases i0 : i = 0
    · have i1 : ¬ 0 < i := by omega
      simp -implicitDefEqProofs [e0, e3, c', cSs, cStr, hxi, h37', i1, vmove, isNil]
      exact ⟨(k - 1), by omega, (hI _ _).2 ⟨_, _, i + 1, (by first | rfl | (simp [e0, cSs, w_i]; done) | (simp [e0, cSs, w_i]; rfl) | (simp [e0, cSs, w_i]; and_intros <;> rfl)), by simp [e0, cSs, w_i], by simp [w_i], by omega, hgood (by simp [h37, i0])⟩⟩
    · have i1 : 0 < i := by omega
      have wi : IntKind.i64.wrap ((i : Int) - 1) = ((i - 1 : Nat) : Int) := by rw [w64_id (by omega) (by omega)]; omega
      obtain ⟨y, hy⟩ : ∃ y, keys[i - 1]'(by omega) = y := ⟨_, rfl⟩
      have hyi : keys[i - 1]? = some y := by rw [List.getElem?_eq_getElem (by omega), hy]
      have hgy : keys.getD (i - 1) ByteArray.empty = y := by rw [List.getD_eq_getElem?_getD, hyi]; rfl
      rw [hgy] at hbad hgood
      have hq : Op.bytesLess y.toList x.toList = ltS y x := rfl
      have i1' : (0 : Int) ≤ ((i - 1 : Nat) : Int) := by omega
      cases hlt : ltS y x with
      | true =>
        rw [hlt] at hq
        simp -implicitDefEqProofs [e0, e3, c', cSs, cStr, hxi, hyi, h37', i1, i1', wi, sbin_geq, hq, vmove, isNil]
        exact ⟨(k - 1), by omega, (hI _ _).2 ⟨_, _, i + 1, (by first | rfl | (simp [e0, cSs, w_i]; done) | (simp [e0, cSs, w_i]; rfl) | (simp [e0, cSs, w_i]; and_intros <;> rfl)), by simp [e0, cSs, w_i], by simp [w_i], by omega, hgood (by simp [h37, hlt])⟩⟩
      | false =>
        rw [hlt] at hq
        rw [hbad (by simp [hlt, i0])]
        simp -implicitDefEqProofs [e0, e3, c', cSs, cStr, hxi, hyi, h37', i1, i1', wi, sbin_geq, hq, vmove, isNil]
  · have h37' : ((x.size : Int) != 37) = true := by simp; omega
    rw [hbad (by simp [h37])]
    simp -implicitDefEqProofs [e0, e3, c', cSs, cStr, hxi, h37', vmove, isNil]
end Go.Proofs.YtmgnmnogiajlgaaGreatF
end

section
/- The document's equations. -/
set_option maxRecDepth 8192
set_option maxHeartbeats 2000000
namespace Go.Proofs.YtmgnmnogiajlgaaGreatF
open Go Go.Proofs.Vm Go.Proofs.Vm.Fld

/-- A radar in a place, and three growing lists beside it. -/
structure RH (R : Rad) (A : List (List Int)) (B C : List Int) (z a b c : Nat) (G : Hp) : Prop where
  g0 : G[z]? = some (.opn [(cRad R).map .c] false)
  gA : G[a]? = some (.clo (A.map fun r => [cUr r]) false)
  gB : G[b]? = some (.clo (B.map cU) false)
  gC : G[c]? = some (.clo (C.map cU) false)
  nd : z ≠ a ∧ z ≠ b ∧ z ≠ c ∧ a ≠ b ∧ a ≠ c ∧ b ≠ c
theorem get_lt {G : Hp} {i : Nat} {e : Ent} (h : G[i]? = some e) : i < G.length := (List.getElem?_eq_some_iff.1 h).1
section
variable {R : Rad} {A : List (List Int)} {B C : List Int} {z a b c : Nat} {G : Hp}
theorem RH.app (h : RH R A B C z a b c G) (T : Hp) : RH R A B C z a b c (G ++ T) := ⟨get_app T h.g0, get_app T h.gA, get_app T h.gB, get_app T h.gC, h.nd⟩
theorem RH.oth (h : RH R A B C z a b c G) {d : Nat} (e : Ent) (hd : d ≠ z ∧ d ≠ a ∧ d ≠ b ∧ d ≠ c) : RH R A B C z a b c (G.set d e) :=
  ⟨by rw [set_get (fun e => hd.1 e.symm)]; exact h.g0, by rw [set_get (fun e => hd.2.1 e.symm)]; exact h.gA, by rw [set_get (fun e => hd.2.2.1 e.symm)]; exact h.gB, by rw [set_get (fun e => hd.2.2.2 e.symm)]; exact h.gC, h.nd⟩
theorem RH.setA (h : RH R A B C z a b c G) (A2 : List (List Int)) : RH R A2 B C z a b c (G.set a (.clo (A2.map fun r => [cUr r]) false)) :=
  ⟨by rw [set_get h.nd.1]; exact h.g0, set_self h.gA, by rw [set_get fun e => h.nd.2.2.2.1 e.symm]; exact h.gB, by rw [set_get fun e => h.nd.2.2.2.2.1 e.symm]; exact h.gC, h.nd⟩
theorem RH.setB (h : RH R A B C z a b c G) (B2 : List Int) : RH R A B2 C z a b c (G.set b (.clo (B2.map cU) false)) :=
  ⟨by rw [set_get h.nd.2.1]; exact h.g0, by rw [set_get h.nd.2.2.2.1]; exact h.gA, set_self h.gB, by rw [set_get fun e => h.nd.2.2.2.2.2 e.symm]; exact h.gC, h.nd⟩
theorem RH.setC (h : RH R A B C z a b c G) (C2 : List Int) : RH R A B C2 z a b c (G.set c (.clo (C2.map cU) false)) :=
  ⟨by rw [set_get h.nd.2.2.1]; exact h.g0, by rw [set_get h.nd.2.2.2.2.1]; exact h.gA, by rw [set_get h.nd.2.2.2.2.2]; exact h.gB, set_self h.gC, h.nd⟩
end
def rowsA (R : Rad) (keys : List ByteArray) : CA := .tup [(false, [cUm (eqAll R keys)]), (false, [cUr (rhs R pkF)]), (false, [cUr (rhs R byF)])]
theorem r17_Rows {R : Rad} {keys : List ByteArray} (hs : Seeds R) (hl : Lens R) (hok : rOk R = true) (hk : keys.length ≤ 32) (h37 : ∀ k ∈ keys, k.size ≤ 1000) : TV.pu 17 [.agg (cRad R), .one (cSs keys)] = some (rowsA R keys) := by
  refine run17 (by simp) ?_
  obtain ⟨q1, q2, q3, q4, q5⟩ := rOk_facts hok
  simp -implicitDefEqProofs [Tryz.f17, cRad, cRws, cRw, cSs, vmove, isNil]
  obtain ⟨J, hJ⟩ : ∃ J : Nat → St → Prop, ∀ k1 s', J k1 s' ↔ (∃ e G z a b c A B C i, s' = ⟨e, G⟩ ∧ e 1 = .one (.c (cSs keys)) ∧ e 2 = .one (.ptr ⟨z, 0, 0, 1⟩) ∧ e 7 = .one (.sl a 0 A.length A.length) ∧ e 8 = .one (.sl b 0 A.length A.length) ∧ e 9 = .one (.sl c 0 A.length A.length) ∧ e 10 = vI .i64 (i : Nat) ∧ (i + k1 = R.rows.length) ∧ (RH R A B C z a b c G) ∧ (A = eqTo R keys i) ∧ (B = rhsTo R pkF i) ∧ (C = rhsTo R byF i) ∧ (B.length = A.length) ∧ (C.length = A.length) ∧ (A.length ≤ 256 * i)) := ⟨_, fun _ _ => Iff.rfl⟩
  refine wpL_ind J ?_ R.rows.length _ ((hJ _ _).2 ⟨_, _, 0, 4, 5, 6, [], [], [], 0, (by first | rfl | (simp [cSs]; done) | (simp [cSs]; rfl) | (simp [cSs]; and_intros <;> rfl)), by simp [cSs], by simp, by simp, by simp, by simp, by simp, by omega, ⟨rfl, rfl, rfl, rfl, by decide⟩, rfl, rfl, rfl, rfl, rfl, by simp⟩)
  intro k1 stJ hstJ
  obtain ⟨e, G, z, a, b, c, A, B, C, i, rfl, e1, e2, e7, e8, e9, e10, hi, hG, hA, hB, hC, hlB, hlC, hAl⟩ := (hJ _ _).1 hstJ
  have g0 := hG.g0
  simp only [cRad, cRws, cRw] at g0
  by_cases ci : i < R.rows.length
  rotate_left
  · have ci' : ¬ (i : Int) < R.rows.length := by omega
    have hi' : i = R.rows.length := by omega
    rw [hi', rhs_all] at hB hC
    rw [hi'] at hA
    have hA : A = eqAll R keys := hA
    rw [rowsA, ← hA, ← hB, ← hC]
    have gA := hG.gA
    have gB := hG.gB
    have gC := hG.gC
    have tA : List.take A.length (A.map fun r => [cUr r]) = A.map fun r => [cUr r] := List.take_of_length_le (by simp)
    have tB : List.take A.length (B.map cU) = B.map cU := List.take_of_length_le (by simp; omega)
    have tC : List.take A.length (C.map cU) = C.map cU := List.take_of_length_le (by simp; omega)
    simp only [cUr] at gA tA
    simp -implicitDefEqProofs [e2, e7, e8, e9, e10, ci', g0, gA, gB, gC, tA, tB, tC, hlB, hlC, cUr, cUm, vmove, isNil]
  have ci' : (i : Int) < R.rows.length := by omega
  obtain ⟨r, hr⟩ : ∃ r, R.rows[i] = r := ⟨_, rfl⟩
  have hri : R.rows[i]? = some r := by rw [List.getElem?_eq_getElem ci, hr]
  have hgr : (R.rows.getD i []).length = r.length := by rw [List.getD_eq_getElem?_getD, hri]; rfl
  have hrm : r ∈ R.rows := hr ▸ List.getElem_mem ci
  obtain ⟨r1, r2, r3, r4⟩ := q5 r hrm
  have w_i : IntKind.i64.wrap ((i : Int) + 1) = ((i + 1 : Nat) : Int) := by rw [w64_id (by omega) (by omega)]; omega
  simp -implicitDefEqProofs [e2, e10, ci', g0, vmove, isNil]
  obtain ⟨K, hK⟩ : ∃ K : Nat → St → Prop, ∀ k2 s', K k2 s' ↔ (∃ e G A B C p, s' = ⟨e, G⟩ ∧ e 1 = .one (.c (cSs keys)) ∧ e 2 = .one (.ptr ⟨z, 0, 0, 1⟩) ∧ e 7 = .one (.sl a 0 A.length A.length) ∧ e 8 = .one (.sl b 0 A.length A.length) ∧ e 9 = .one (.sl c 0 A.length A.length) ∧ e 10 = vI .i64 (i : Nat) ∧ e 11 = vI .i64 (p : Nat) ∧ (p + k2 = r.length) ∧ (RH R A B C z a b c G) ∧ (A = eqTo R keys i ++ eqOf R keys i p) ∧ (B = rhsTo R pkF i ++ (r.take p).map pkF) ∧ (C = rhsTo R byF i ++ (r.take p).map byF) ∧ (B.length = A.length) ∧ (C.length = A.length) ∧ (A.length ≤ 256 * i + p)) := ⟨_, fun _ _ => Iff.rfl⟩
  refine wpL_ind K ?_ r.length _ ((hK _ _).2 ⟨_, _, A, B, C, 0, (by first | rfl | (simp [e1, e2, e7, e8, e9, e10, cSs]; done) | (simp [e1, e2, e7, e8, e9, e10, cSs]; rfl) | (simp [e1, e2, e7, e8, e9, e10, cSs]; and_intros <;> rfl)), by simp [e1, cSs], by simp [e2], by simp [e7], by simp [e8], by simp [e9], by simp [e10], by simp, by omega, hG, by rw [hA]; simp [eqOf], by rw [hB]; simp, by rw [hC]; simp, hlB, hlC, by omega⟩)
  clear e1 e2 e7 e8 e9 e10 hA hB hC hlB hlC hAl hG g0
  intro k2 stK hstK
  obtain ⟨e, G, A, B, C, p, rfl, e1, e2, e7, e8, e9, e10, e11, hp, hG, hA, hB, hC, hlB, hlC, hAl⟩ := (hK _ _).1 hstK
  have g0 := hG.g0
  simp only [cRad, cRws, cRw] at g0
  by_cases cp : p < r.length
  rotate_left
  · have cp' : ¬ (p : Int) < r.length := by omega
    have hp' : p = r.length := by omega
    subst hp'
    rw [← eqTo_succ ci hr] at hA
    rw [List.take_length, ← rhsTo_succ ci hr] at hB hC
    simp -implicitDefEqProofs [e2, e10, e11, g0, hri, cp', vmove, isNil]
    exact ⟨(k1 - 1), by omega, (hJ _ _).2 ⟨_, _, z, a, b, c, A, B, C, i + 1, (by first | rfl | (simp [e1, e2, e7, e8, e9, w_i, cSs]; done) | (simp [e1, e2, e7, e8, e9, w_i, cSs]; rfl) | (simp [e1, e2, e7, e8, e9, w_i, cSs]; and_intros <;> rfl)), by simp [e1, w_i, cSs], by simp [e2, w_i], by simp [e7, w_i], by simp [e8, w_i], by simp [e9, w_i], by simp [w_i], by omega, hG, hA, hB, hC, hlB, hlC, by omega⟩⟩
  have cp' : (p : Int) < r.length := by omega
  obtain ⟨cx, cf, cpk, cby, hc⟩ : ∃ cx cf cpk cby, r[p] = (cx, cf, cpk, cby) := ⟨_, _, _, _, rfl⟩
  have hrp : r[p]? = some (cx, cf, cpk, cby) := by rw [List.getElem?_eq_getElem cp, hc]
  have hcw := (wrongB_iff _).1 (r4 (cx, cf, cpk, cby) (hc ▸ List.getElem_mem cp))
  have w_p : IntKind.i64.wrap ((p : Int) + 1) = ((p + 1 : Nat) : Int) := by rw [w64_id (by omega) (by omega)]; omega
  simp -implicitDefEqProofs [e2, e10, e11, g0, hri, cp', vmove, isNil]
  obtain ⟨er, her⟩ : ∃ er, eqRow R keys i r.length p = er := ⟨_, rfl⟩
  have hel : er.length = keys.length := by rw [← her]; exact eqRow_len ..
  have hea : ∀ q (h : q < keys.length), er[q]? = some (if rplc R keys[q] i r.length = (p : Int) then 1 else 0) := fun q h => by
    rw [← her, List.getElem?_eq_getElem (by rw [eqRow_len]; exact h)]; simp [eqRow]
  obtain ⟨Q, hQ⟩ : ∃ Q : Nat → St → Prop, ∀ k3 s', Q k3 s' ↔ (∃ e M d q, s' = ⟨e, M⟩ ∧ e 1 = .one (.c (cSs keys)) ∧ e 2 = .one (.ptr ⟨z, 0, 0, 1⟩) ∧ e 7 = .one (.sl a 0 A.length A.length) ∧ e 8 = .one (.sl b 0 A.length A.length) ∧ e 9 = .one (.sl c 0 A.length A.length) ∧ e 10 = vI .i64 (i : Nat) ∧ e 11 = vI .i64 (p : Nat) ∧ e 12 = .one (.sl d 0 q q) ∧ e 13 = vI .i64 (q : Nat) ∧ (q + k3 = keys.length) ∧ (RH R A B C z a b c M) ∧ (M[d]? = some (.clo ((er.take q).map cU) false)) ∧ (d ≠ z ∧ d ≠ a ∧ d ≠ b ∧ d ≠ c)) := ⟨_, fun _ _ => Iff.rfl⟩
  refine wpL_ind Q ?_ keys.length _ ((hQ _ _).2 ⟨_, _, G.length, 0, (by first | rfl | (simp [e1, e2, e7, e8, e9, e10, e11, cSs]; done) | (simp [e1, e2, e7, e8, e9, e10, e11, cSs]; rfl) | (simp [e1, e2, e7, e8, e9, e10, e11, cSs]; and_intros <;> rfl)), by simp [e1, cSs], by simp [e2], by simp [e7], by simp [e8], by simp [e9], by simp [e10], by simp [e11], by simp, by simp, by omega, hG.app _, by simp, ⟨by have := get_lt hG.g0; omega, by have := get_lt hG.gA; omega, by have := get_lt hG.gB; omega, by have := get_lt hG.gC; omega⟩⟩)
  clear e1 e2 e7 e8 e9 e10 e11 hG g0
  intro k3 stQ hstQ
  obtain ⟨e, M, d, q, rfl, e1, e2, e7, e8, e9, e10, e11, e12, e13, hq, hM, g12, hd⟩ := (hQ _ _).1 hstQ
  have g0 := hM.g0
  simp only [cRad, cRws, cRw] at g0
  by_cases cq : q < keys.length
  · have cq' : (q : Int) < keys.length := by omega
    obtain ⟨x, hx⟩ : ∃ x, keys[q] = x := ⟨_, rfl⟩
    have hxq : keys[q]? = some x := by rw [List.getElem?_eq_getElem cq, hx]
    have hpl := rr_Place (R := R) (key := x) (i := i) hs hl ci (h37 x (hx ▸ List.getElem_mem cq))
    simp only [hr] at hpl
    have heq := hea q cq
    rw [hx] at heq
    obtain ⟨pl, hpl2⟩ : ∃ pl, rplc R x i r.length = pl := ⟨_, rfl⟩
    rw [hpl2] at hpl heq
    have w_q : IntKind.i64.wrap ((q : Int) + 1) = ((q + 1 : Nat) : Int) := by rw [w64_id (by omega) (by omega)]; omega
    simp only [cRad, cRws, cRw] at hpl
    have happ : ∀ v : Int, er[q]? = some v → ∃ M2, vappend Tryz.prog (M ++ [Ent.clo [cU v] false]) 57 57 (.one (.sl d 0 q q)) (.one (.sl M.length 0 1 1)) = some (.one (.sl d 0 (q + 1) (q + 1)), M2) ∧ RH R A B C z a b c M2 ∧ M2[d]? = some (.clo ((er.take (q + 1)).map cU) false) := fun v hv => by
      refine ⟨_, ap_ur v g12 (by simp; omega) (by omega), (hM.app _).oth _ hd, ?_⟩
      rw [List.take_add_one, hv]
      exact set_self (e0 := _) (get_app _ g12)
    by_cases hh : pl = (p : Int)
    · rw [if_pos hh] at heq
      subst hh
      obtain ⟨M2, ha, hM2, g2⟩ := happ _ heq
      simp only [cU] at ha
      simp -implicitDefEqProofs [e1, e2, e10, e11, e12, e13, cq', g0, hxq, hpl, cSs, cStr, vmove, isNil, cellsOf?, nrm, fzParts, setAll, rchParts, rch, vbuildSlice_eq es57 el37, ha]
      exact ⟨(k3 - 1), by omega, (hQ _ _).2 ⟨_, M2, d, q + 1, (by first | rfl | (simp [e1, e2, e7, e8, e9, e10, e11, w_q, cSs]; done) | (simp [e1, e2, e7, e8, e9, e10, e11, w_q, cSs]; rfl) | (simp [e1, e2, e7, e8, e9, e10, e11, w_q, cSs]; and_intros <;> rfl)), by simp [e1, w_q, cSs], by simp [e2, w_q], by simp [e7, w_q], by simp [e8, w_q], by simp [e9, w_q], by simp [e10, w_q], by simp [e11, w_q], by simp [w_q], by simp [w_q], by omega, hM2, g2, hd⟩⟩
    · rw [if_neg hh] at heq
      obtain ⟨M2, ha, hM2, g2⟩ := happ _ heq
      simp only [cU] at ha
      simp -implicitDefEqProofs [e1, e2, e10, e11, e12, e13, cq', g0, hxq, hpl, hh, cSs, cStr, vmove, isNil, cellsOf?, nrm, fzParts, setAll, rchParts, rch, vbuildSlice_eq es57 el37, ha]
      exact ⟨(k3 - 1), by omega, (hQ _ _).2 ⟨_, M2, d, q + 1, (by first | rfl | (simp [e1, e2, e7, e8, e9, e10, e11, w_q, cSs]; done) | (simp [e1, e2, e7, e8, e9, e10, e11, w_q, cSs]; rfl) | (simp [e1, e2, e7, e8, e9, e10, e11, w_q, cSs]; and_intros <;> rfl)), by simp [e1, w_q, cSs], by simp [e2, w_q], by simp [e7, w_q], by simp [e8, w_q], by simp [e9, w_q], by simp [e10, w_q], by simp [e11, w_q], by simp [w_q], by simp [w_q], by omega, hM2, g2, hd⟩⟩
  · have cq' : ¬ (q : Int) < keys.length := by omega
    rw [List.take_of_length_le (by omega)] at g12
    have hwp : IntKind.u64.wrap cpk = cpk := u64_id (by have := hcw.2.2.2.1; dsimp only at this; omega) (by have := hcw.2.2.2.2.1; dsimp only at this; omega)
    have hwb : IntKind.u64.wrap cby = cby := u64_id (by have := hcw.2.2.2.2.2.1; dsimp only at this; omega) (by have := hcw.2.2.2.2.2.2; dsimp only at this; omega)
    have hte : List.take q (er.map cU) = er.map cU := List.take_of_length_le (by simp; omega)
    have hqe : er.length = q := by omega
    have hfz : frzAll (M ++ [Ent.clo [[CV.arr (er.map cU)]] false]) [d] = M.set d (.clo (er.map cU) true) ++ [Ent.clo [[CV.arr (er.map cU)]] false] := by
      have hdl := get_lt g12
      simp only [frzAll, List.foldl_cons, List.foldl_nil]
      apply List.ext_getElem?
      intro j
      rw [List.getElem?_modify]
      by_cases e : d = j
      · subst e
        rw [List.getElem?_append_left hdl, g12, List.getElem?_append_left (by simpa using hdl), List.getElem?_set_self hdl]
        simp [Ent.frz]
      · simp [e, List.getElem?_append]
    obtain ⟨M1, hM1⟩ : ∃ M1, M.set d (.clo (er.map cU) true) = M1 := ⟨_, rfl⟩
    have hM1r : RH R A B C z a b c M1 := by rw [← hM1]; exact hM.oth _ hd
    have hM1l : M1.length = M.length := by rw [← hM1]; simp
    rw [hM1] at hfz
    have ha1 := ap_um er hM1r.gA rfl (by omega)
    rw [hM1l] at ha1
    obtain ⟨M2, hM2⟩ : ∃ M2, (M1 ++ [Ent.clo [[cUr er]] false]).set a (.clo ((A ++ [er]).map fun r => [cUr r]) false) = M2 := ⟨_, rfl⟩
    have hM2r : RH R (A ++ [er]) B C z a b c M2 := by rw [← hM2]; exact (hM1r.app _).setA _
    rw [hM2] at ha1
    have ha2 := ap_ur cpk hM2r.gB hlB (by omega)
    obtain ⟨M3, hM3⟩ : ∃ M3, (M2 ++ [Ent.clo [cU cpk] false]).set b (.clo ((B ++ [cpk]).map cU) false) = M3 := ⟨_, rfl⟩
    have hM3r : RH R (A ++ [er]) (B ++ [cpk]) C z a b c M3 := by rw [← hM3]; exact (hM2r.app _).setB _
    rw [hM3] at ha2
    have ha3 := ap_ur cby hM3r.gC hlC (by omega)
    obtain ⟨M4, hM4⟩ : ∃ M4, (M3 ++ [Ent.clo [cU cby] false]).set c (.clo ((C ++ [cby]).map cU) false) = M4 := ⟨_, rfl⟩
    have hM4r : RH R (A ++ [er]) (B ++ [cpk]) (C ++ [cby]) z a b c M4 := by rw [← hM4]; exact (hM3r.app _).setC _
    rw [hM4] at ha3
    have g02 := hM2r.g0
    have g03 := hM3r.g0
    simp only [cRad, cRws, cRw] at g02 g03
    simp only [cUr] at ha1
    simp only [cU] at ha2 ha3
    simp -implicitDefEqProofs [e1, e2, e7, e8, e9, e10, e11, e12, e13, cq', g02, g03, cCl, hri, hrp, g12, hfz, ha1, ha2, ha3, hte, hqe, hwp, hwb, cSs, vmove, isNil, cellsOf?, nrm, fzParts, setAll, rchParts, rch, vbuildSlice_eq es57 el37, vbuildSlice_eq es56 el57]
    have htp : r.take (p + 1) = r.take p ++ [(cx, cf, cpk, cby)] := by rw [List.take_add_one, hrp]; rfl
    have hA2 : A ++ [er] = eqTo R keys i ++ eqOf R keys i (p + 1) := by rw [hA, eqOf_succ, hgr, her, List.append_assoc]
    have hB2 : B ++ [cpk] = rhsTo R pkF i ++ (r.take (p + 1)).map pkF := by rw [hB, htp, List.map_append, List.append_assoc]; rfl
    have hC2 : C ++ [cby] = rhsTo R byF i ++ (r.take (p + 1)).map byF := by rw [hC, htp, List.map_append, List.append_assoc]; rfl
    exact ⟨(k2 - 1), by omega, (hK _ _).2 ⟨_, M4, A ++ [er], B ++ [cpk], C ++ [cby], p + 1, (by first | rfl | (simp [e1, e2, e10, w_p, cSs]; done) | (simp [e1, e2, e10, w_p, cSs]; rfl) | (simp [e1, e2, e10, w_p, cSs]; and_intros <;> rfl)), by simp [e1, w_p, cSs], by simp [e2, w_p], by simp [w_p], by simp [w_p], by simp [w_p], by simp [e10, w_p], by simp [w_p], by omega, hM4r, hA2, hB2, hC2, by simp [hlB], by simp [hlC], by simp; omega⟩⟩
end Go.Proofs.YtmgnmnogiajlgaaGreatF
end

section
/- The document's check of counts. -/
set_option maxRecDepth 8192
set_option maxHeartbeats 2000000
namespace Go.Proofs.YtmgnmnogiajlgaaGreatF
open Go Go.Proofs.Vm Go.Proofs.Vm.Fld

/-- Four places of a heap. -/
structure H4 (z a b c : Nat) (E0 E1 E2 E3 : Ent) (G : Hp) : Prop where
  g0 : G[z]? = some E0
  g1 : G[a]? = some E1
  g2 : G[b]? = some E2
  g3 : G[c]? = some E3
  nd : z ≠ a ∧ z ≠ b ∧ z ≠ c ∧ a ≠ b ∧ a ≠ c ∧ b ≠ c
section
variable {z a b c : Nat} {E0 E1 E2 E3 : Ent} {G : Hp}
theorem H4.app (h : H4 z a b c E0 E1 E2 E3 G) (T : Hp) : H4 z a b c E0 E1 E2 E3 (G ++ T) := ⟨get_app T h.g0, get_app T h.g1, get_app T h.g2, get_app T h.g3, h.nd⟩
theorem H4.set1 (h : H4 z a b c E0 E1 E2 E3 G) (E : Ent) : H4 z a b c E0 E E2 E3 (G.set a E) :=
  ⟨by rw [set_get h.nd.1]; exact h.g0, set_self h.g1, by rw [set_get fun e => h.nd.2.2.2.1 e.symm]; exact h.g2, by rw [set_get fun e => h.nd.2.2.2.2.1 e.symm]; exact h.g3, h.nd⟩
theorem H4.set2 (h : H4 z a b c E0 E1 E2 E3 G) (E : Ent) : H4 z a b c E0 E1 E E3 (G.set b E) :=
  ⟨by rw [set_get h.nd.2.1]; exact h.g0, by rw [set_get h.nd.2.2.2.1]; exact h.g1, set_self h.g2, by rw [set_get fun e => h.nd.2.2.2.2.2 e.symm]; exact h.g3, h.nd⟩
theorem H4.set3 (h : H4 z a b c E0 E1 E2 E3 G) (E : Ent) : H4 z a b c E0 E1 E2 E (G.set c E) :=
  ⟨by rw [set_get h.nd.2.2.1]; exact h.g0, by rw [set_get h.nd.2.2.2.2.1]; exact h.g1, by rw [set_get h.nd.2.2.2.2.2]; exact h.g2, set_self h.g3, h.nd⟩
theorem frz_get (h : b ≠ a) : (frzAll G [a])[b]? = G[b]? := by
  simp only [frzAll, List.foldl_cons, List.foldl_nil, List.getElem?_modify]
  cases G[b]? with
  | none => rfl
  | some e => simp [Ne.symm h]
end
/-- A string more behind strings. -/
theorem ap_ss {G : Hp} {d n : Nat} {B : List ByteArray} (x : ByteArray) (g : G[d]? = some (.clo (B.map cStr) false)) (hn : B.length = n) (hl : n ≤ 100000) :
    vappend Tryz.prog (G ++ [Ent.clo [cStr x] false]) 35 35 (.one (.sl d 0 n n)) (.one (.sl G.length 0 1 1)) = some (.one (.sl d 0 (n + 1) (n + 1)), (G ++ [Ent.clo [cStr x] false]).set d (Ent.clo ((B ++ [x]).map cStr) false)) := by
  have gl := (List.getElem?_eq_some_iff.1 g).1
  have ha := vappend_eq (P := Tryz.prog) (H := G ++ [.clo [cStr x] false]) (t := 35) (tx := 35) (id := d) (n := n) (l := B.map cStr) (xs := [cStr x]) (x := .one (.sl G.length 0 1 1)) es35 es35 el9
    (by rw [List.getElem?_append_left gl]; exact g) (by simp [elemsOf]) (by simpa using hn) (by intro e he; obtain ⟨y, -, rfl⟩ := List.mem_map.1 he; rfl) (by simp [cStr]) (by simp only [List.length_singleton]; omega) (by simp only [List.length_singleton]; omega)
  rw [List.map_append]
  exact ha
def holdsF (R : Rad) (l : List Ct) : Bool := decide (redR (timesF (eqAll R (l.map (·.1))) (l.map (·.2.1))) = redR (rhs R pkF)) && decide (redR (timesF (eqAll R (l.map (·.1))) (l.map (·.2.2))) = redR (rhs R byF))
theorem r17_Holds {R : Rad} {l : List Ct} (hs : Seeds R) (hl : Lens R) (hok : rOk R = true) (hk : l.length ≤ 32) (h37 : ∀ c ∈ l, c.1.size ≤ 1000) (hb : ∀ c ∈ l, 0 ≤ c.2.1 ∧ c.2.1 ≤ 1099511627776 ∧ 0 ≤ c.2.2 ∧ c.2.2 ≤ 1099511627776) (hEl : (eqAll R (l.map (·.1))).length ≤ 1000) : TV.pu 19 [.agg (cRad R), .one (cCts l)] = some (cB (holdsF R l)) := by
  refine run19 (by simp) ?_
  simp -implicitDefEqProofs [Tryz.f19, cRad, cRws, cRw, cCts, vmove, isNil]
  obtain ⟨J, hJ⟩ : ∃ J : Nat → St → Prop, ∀ k1 s', J k1 s' ↔ (∃ e G z a b c i, s' = ⟨e, G⟩ ∧ e 1 = .one (.c (cCts l)) ∧ e 2 = .one (.ptr ⟨z, 0, 0, 1⟩) ∧ e 5 = .one (.sl a 0 i i) ∧ e 6 = .one (.sl b 0 i i) ∧ e 7 = .one (.sl c 0 i i) ∧ e 8 = vI .i64 (i : Nat) ∧ (i + k1 = l.length) ∧ (H4 z a b c (.opn [(cRad R).map .c] false) (.clo (((l.take i).map (·.1)).map cStr) false) (.clo (((l.take i).map (·.2.1)).map cU) false) (.clo (((l.take i).map (·.2.2)).map cU) false) G)) := ⟨_, fun _ _ => Iff.rfl⟩
  refine wpL_ind J ?_ l.length _ ((hJ _ _).2 ⟨_, _, 0, 1, 2, 3, 0, (by first | rfl | (simp [cCts]; done) | (simp [cCts]; rfl) | (simp [cCts]; and_intros <;> rfl)), by simp [cCts], by simp, by simp, by simp, by simp, by simp, by omega, ⟨rfl, rfl, rfl, rfl, by decide⟩⟩)
  intro k1 stJ hstJ
  obtain ⟨e, G, z, a, b, c, i, rfl, e1, e2, e5, e6, e7, e8, hi, hG⟩ := (hJ _ _).1 hstJ
  have g0 := hG.g0
  simp only [cRad, cRws, cRw] at g0
  by_cases ci : i < l.length
  rotate_left
  · have ci' : ¬ (i : Int) < l.length := by omega
    have hi' : i = l.length := by omega
    subst hi'
    rw [List.take_length] at hG
    have h37' : ∀ k ∈ l.map (·.1), k.size ≤ 1000 := fun k hk => by
      obtain ⟨c, hc, rfl⟩ := List.mem_map.1 hk
      exact h37 c hc
    have hxb : ∀ n ∈ l.map (·.2.1), 0 ≤ n ∧ n < 18446744073709551616 := fun n hn => by
      obtain ⟨c, hc, rfl⟩ := List.mem_map.1 hn
      have := hb c hc
      omega
    have hyb : ∀ n ∈ l.map (·.2.2), 0 ≤ n ∧ n < 18446744073709551616 := fun n hn => by
      obtain ⟨c, hc, rfl⟩ := List.mem_map.1 hn
      have := hb c hc
      omega
    have lk : (l.map (·.1)).length = l.length := by simp
    have lx : (l.map (·.2.1)).length = l.length := by simp
    have ly : (l.map (·.2.2)).length = l.length := by simp
    unfold holdsF
    obtain ⟨ks, hks⟩ : ∃ ks, l.map (·.1) = ks := ⟨_, rfl⟩
    obtain ⟨xs, hxs⟩ : ∃ xs, l.map (·.2.1) = xs := ⟨_, rfl⟩
    obtain ⟨ys, hys⟩ : ∃ ys, l.map (·.2.2) = ys := ⟨_, rfl⟩
    rw [hks] at lk h37' hG hEl ⊢
    rw [hxs] at lx hxb hG ⊢
    rw [hys] at ly hyb hG ⊢
    have hRw := r17_Rows (keys := ks) hs hl hok (by omega) h37'
    have hEm := eqAll_row R ks
    have hPm : ∀ n ∈ rhs R pkF, 0 ≤ n ∧ n < 18446744073709551616 := rhs_mem hok (fun c hc => by have := (wrongB_iff _).1 hc; exact ⟨this.2.2.2.1, by have := this.2.2.2.2.1; show c.2.2.1 < _; omega⟩)
    have hBm : ∀ n ∈ rhs R byF, 0 ≤ n ∧ n < 18446744073709551616 := rhs_mem hok (fun c hc => by have := (wrongB_iff _).1 hc; exact ⟨this.2.2.2.2.2.1, by have := this.2.2.2.2.2.2; show c.2.2.2 < _; omega⟩)
    rw [rowsA] at hRw
    obtain ⟨EQ, hEQ⟩ : ∃ EQ, eqAll R ks = EQ := ⟨_, rfl⟩
    obtain ⟨PK, hPK⟩ : ∃ PK, rhs R pkF = PK := ⟨_, rfl⟩
    obtain ⟨BY, hBY⟩ : ∃ BY, rhs R byF = BY := ⟨_, rfl⟩
    rw [hEQ] at hRw hEm hEl ⊢
    rw [hPK] at hRw hPm ⊢
    rw [hBY] at hRw hBm ⊢
    have hT1 := r3_Times (m := EQ) (x := xs) (fun r hr => ⟨by rw [(hEm r hr).1]; omega, (hEm r hr).2⟩) hxb hEl (by omega)
    have hT2 := r3_Times (m := EQ) (x := ys) (fun r hr => ⟨by rw [(hEm r hr).1]; omega, (hEm r hr).2⟩) hyb hEl (by omega)
    have htm : ∀ x : List Int, ∀ n ∈ timesF EQ x, 0 ≤ n ∧ n < 18446744073709551616 := fun x n hn => by
      obtain ⟨r, _, rfl⟩ := List.mem_map.1 hn
      exact ⟨Int.emod_nonneg _ (by decide), by have := Int.emod_lt_of_pos (dot r x) (show (0 : Int) < 2305843009213693951 by decide); omega⟩
    have htl : ∀ x : List Int, (timesF EQ x).length ≤ 4611686018427387904 := fun x => by simp [timesF]; omega
    have hS1 := r3_Same (htm xs) hPm (htl xs)
    have hS2 := r3_Same (htm ys) hBm (htl ys)
    obtain ⟨t1, ht1⟩ : ∃ t, timesF EQ xs = t := ⟨_, rfl⟩
    obtain ⟨t2, ht2⟩ : ∃ t, timesF EQ ys = t := ⟨_, rfl⟩
    rw [ht1] at hT1 hS1 ⊢
    rw [ht2] at hT2 hS2 ⊢
    obtain ⟨b1, hb1⟩ : ∃ b, decide (redR t1 = redR PK) = b := ⟨_, rfl⟩
    obtain ⟨b2, hb2⟩ : ∃ b, decide (redR t2 = redR BY) = b := ⟨_, rfl⟩
    rw [hb1] at hS1 ⊢
    rw [hb2] at hS2 ⊢
    obtain ⟨G1, hG1⟩ : ∃ G1, frzAll G [a] = G1 := ⟨_, rfl⟩
    have g12 := hG.g2
    have g13 := hG.g3
    rw [← frz_get (G := G) (a := a) fun e => hG.nd.2.2.2.1 e.symm, hG1] at g12
    rw [← frz_get (G := G) (a := a) fun e => hG.nd.2.2.2.2.1 e.symm, hG1] at g13
    obtain ⟨G2, hG2⟩ : ∃ G2, frzAll G1 [b] = G2 := ⟨_, rfl⟩
    have g23 := g13
    rw [← frz_get (G := G1) (a := b) fun e => hG.nd.2.2.2.2.2 e.symm, hG2] at g23
    have g1 := hG.g1
    have tk : List.take l.length (ks.map cStr) = ks.map cStr := List.take_of_length_le (by simp; omega)
    have tx : List.take l.length (xs.map cU) = xs.map cU := List.take_of_length_le (by simp; omega)
    have ty : List.take l.length (ys.map cU) = ys.map cU := List.take_of_length_le (by simp; omega)
    simp only [cRad, cRws, cRw, cSs, cUm, cUr] at hRw hT1 hT2 hS1 hS2
    cases b1 <;> simp -implicitDefEqProofs [e1, e2, e5, e6, e7, e8, ci', cCts, g0, g1, tk, lk, lx, ly, hRw, rcha, rch, hG1, g12, tx, hT1, hS1, hG2, g23, ty, hT2, hS2, vmove, isNil]
  have ci' : (i : Int) < l.length := by omega
  obtain ⟨x, u, v, hx⟩ : ∃ x u v, l[i] = (x, u, v) := ⟨_, _, _, rfl⟩
  have hli : l[i]? = some (x, u, v) := by rw [List.getElem?_eq_getElem ci, hx]
  have hm : (x, u, v) ∈ l := hx ▸ List.getElem_mem ci
  obtain ⟨u0, u1, v0, v1⟩ := hb _ hm
  dsimp only at u0 u1 v0 v1
  have hwu : IntKind.u64.wrap u = u := u64_id (by omega) (by omega)
  have hwv : IntKind.u64.wrap v = v := u64_id (by omega) (by omega)
  have u0' : ¬ u < 0 := by omega
  have v0' : ¬ v < 0 := by omega
  have u1' : ¬ 1099511627776 < u := by omega
  have v1' : ¬ 1099511627776 < v := by omega
  have w_i : IntKind.i64.wrap ((i : Int) + 1) = ((i + 1 : Nat) : Int) := by rw [w64_id (by omega) (by omega)]; omega
  have ha1 := ap_ss x hG.g1 (by simp; omega : _ = i) (by omega)
  obtain ⟨M1, hM1⟩ : ∃ M1, (G ++ [Ent.clo [cStr x] false]).set a (.clo ((((l.take i).map (·.1)) ++ [x]).map cStr) false) = M1 := ⟨_, rfl⟩
  have hM1r := (hG.app [Ent.clo [cStr x] false]).set1 (.clo ((((l.take i).map (·.1)) ++ [x]).map cStr) false)
  rw [hM1] at ha1 hM1r
  have ha2 := ap_ur u hM1r.g2 (by simp; omega : _ = i) (by omega)
  obtain ⟨M2, hM2⟩ : ∃ M2, (M1 ++ [Ent.clo [cU u] false]).set b (.clo ((((l.take i).map (·.2.1)) ++ [u]).map cU) false) = M2 := ⟨_, rfl⟩
  have hM2r := (hM1r.app [Ent.clo [cU u] false]).set2 (.clo ((((l.take i).map (·.2.1)) ++ [u]).map cU) false)
  rw [hM2] at ha2 hM2r
  have ha3 := ap_ur v hM2r.g3 (by simp; omega : _ = i) (by omega)
  obtain ⟨M3, hM3⟩ : ∃ M3, (M2 ++ [Ent.clo [cU v] false]).set c (.clo ((((l.take i).map (·.2.2)) ++ [v]).map cU) false) = M3 := ⟨_, rfl⟩
  have hM3r := (hM2r.app [Ent.clo [cU v] false]).set3 (.clo ((((l.take i).map (·.2.2)) ++ [v]).map cU) false)
  rw [hM3] at ha3 hM3r
  have hN : H4 z a b c (.opn [(cRad R).map .c] false) (.clo (((l.take (i + 1)).map (·.1)).map cStr) false) (.clo (((l.take (i + 1)).map (·.2.1)).map cU) false) (.clo (((l.take (i + 1)).map (·.2.2)).map cU) false) M3 := by
    rw [List.take_add_one, hli]
    simpa using hM3r
  simp only [cStr] at ha1
  simp only [cU] at ha2 ha3
  simp -implicitDefEqProofs [e1, e5, e6, e7, e8, ci', cCts, cCt, hli, u0', v0', u1', v1', hwu, hwv, vmove, isNil, cellsOf?, nrm, fzParts, setAll, rchParts, rch, vbuildSlice_eq es57 el37, vbuildSlice_eq es35 el9, ha1, ha2, ha3]
  exact ⟨(k1 - 1), by omega, (hJ _ _).2 ⟨_, M3, z, a, b, c, i + 1, (by first | rfl | (simp [e1, e2, w_i, cCts]; done) | (simp [e1, e2, w_i, cCts]; rfl) | (simp [e1, e2, w_i, cCts]; and_intros <;> rfl)), by simp [e1, w_i, cCts], by simp [e2, w_i], by simp [w_i], by simp [w_i], by simp [w_i], by simp [w_i], by omega, hN⟩⟩
end Go.Proofs.YtmgnmnogiajlgaaGreatF
end

section
/- Counts that solve the equations: plain facts. -/
set_option maxRecDepth 8192
set_option maxHeartbeats 2000000
namespace Go.Proofs.YtmgnmnogiajlgaaGreatF
open Go Go.Proofs.Vm Go.Proofs.Vm.Fld

theorem cts_keys (keys : List ByteArray) (a b : List Int) : (ctsOf keys a b).map (·.1) = keys := by
  apply List.ext_getElem (by simp [ctsOf])
  intro i h1 h2
  simp [ctsOf, List.getD_eq_getElem?_getD, h2]
theorem cts_a {keys : List ByteArray} {a b : List Int} (h : a.length = keys.length) : (ctsOf keys a b).map (·.2.1) = a := by
  apply List.ext_getElem (by simp [ctsOf, h])
  intro i h1 h2
  simp [ctsOf, at0_get h2]
theorem cts_b {keys : List ByteArray} {a b : List Int} (h : b.length = keys.length) : (ctsOf keys a b).map (·.2.2) = b := by
  apply List.ext_getElem (by simp [ctsOf, h])
  intro i h1 h2
  simp [ctsOf, at0_get h2]
theorem times_sol {m : List (List Int)} {b x : List Int} {n : Nat} (hm : ∀ r ∈ m, r.length = n) (hbl : b.length = m.length) (hx : x.length = n) (hA : Ann PP (wideR m b) (x ++ [-1])) : redR (timesF m x) = redR b := by
  apply List.ext_getElem (by simp [redR, timesF, hbl])
  intro i h1 h2
  have hi : i < m.length := by simpa [redR, timesF] using h1
  have hib : i < b.length := by omega
  have hw : i < (wideR m b).length := by simp [wideR]; omega
  have h := hA _ (List.getElem_mem hw)
  simp only [wideR, List.getElem_zipWith] at h
  rw [dot_snoc _ _ _ _ (by rw [hm _ (List.getElem_mem hi), hx])] at h
  simp only [redR, timesF, List.getElem_map]
  have h' : (2305843009213693951 : Int) ∣ dot m[i] x + b[i] * -1 := h
  omega
theorem eq_red (R : Rad) (keys : List ByteArray) : ∀ r ∈ eqAll R keys, RedR r ∧ r.length = keys.length := fun r hr => by
  refine ⟨fun n hn => ?_, (eqAll_row R keys r hr).1⟩
  obtain ⟨l, hl, hr⟩ := List.mem_flatten.1 (show r ∈ List.flatten _ from hr)
  obtain ⟨j, _, rfl⟩ := List.mem_map.1 hl
  obtain ⟨p, _, rfl⟩ := List.mem_map.1 (show r ∈ List.map _ _ from hr)
  obtain ⟨k, _, rfl⟩ := List.mem_map.1 (show n ∈ List.map _ _ from hn)
  split <;> omega
theorem rhs_red {R : Rad} {f : RCl → Int} (hok : rOk R = true) (hf : ∀ c, wrongB c = false → 0 ≤ f c ∧ f c ≤ 1099511627776) : RedR (rhs R f) := fun n hn => by
  obtain ⟨q1, q2, q3, q4, q5⟩ := rOk_facts hok
  obtain ⟨c, hc, rfl⟩ := List.mem_map.1 (show n ∈ List.map _ _ from hn)
  obtain ⟨l, hl, hc⟩ := List.mem_flatten.1 hc
  have := hf c ((q5 l hl).2.2.2 c hc)
  omega
theorem pk_red {R : Rad} (hok : rOk R = true) : RedR (rhs R pkF) := rhs_red hok fun c hc => by
  have := (wrongB_iff _).1 hc
  exact ⟨this.2.2.2.1, by have := this.2.2.2.2.1; show c.2.2.1 ≤ _; omega⟩
theorem by_red {R : Rad} (hok : rOk R = true) : RedR (rhs R byF) := rhs_red hok fun c hc => by
  have := (wrongB_iff _).1 hc
  exact ⟨this.2.2.2.2.2.1, by have := this.2.2.2.2.2.2; show c.2.2.2 ≤ _; omega⟩
theorem cts_small {keys : List ByteArray} {a b : List Int} (ha : a.length = keys.length) (hb : b.length = keys.length) (h0 : ∀ x ∈ a, 0 ≤ x) (h1 : ∀ x ∈ b, 0 ≤ x) (hB : bigA keys.length a b = false) : ∀ c ∈ ctsOf keys a b, 0 ≤ c.2.1 ∧ c.2.1 ≤ 1099511627776 ∧ 0 ≤ c.2.2 ∧ c.2.2 ≤ 1099511627776 := fun c hc => by
  obtain ⟨i, hi, rfl⟩ := List.mem_map.1 hc
  have hi := List.mem_range.1 hi
  have e1 : at0 a i = a[i]'(by omega) := at0_get (by omega)
  have e2 : at0 b i = b[i]'(by omega) := at0_get (by omega)
  have p1 := h0 _ (List.getElem_mem (show i < a.length by omega))
  have p2 := h1 _ (List.getElem_mem (show i < b.length by omega))
  have n1 : ¬ (1099511627776 < at0 a i ∨ 1099511627776 < at0 b i) := fun h => by rw [bigA_of hi h] at hB; cases hB
  dsimp only
  omega
end Go.Proofs.YtmgnmnogiajlgaaGreatF
end

section
/- The document's solver: a row without others. -/
set_option maxRecDepth 8192
set_option maxHeartbeats 2000000
namespace Go.Proofs.YtmgnmnogiajlgaaGreatF
open Go Go.Proofs.Vm Go.Proofs.Vm.Fld

theorem lessF_len {r : List Int} : ∀ {base : List (List Int)}, (∀ b ∈ base, b.length = r.length) → (lessF PP invF r base).length = r.length
  | [], _ => rfl
  | b :: t, h => by
    have h1 : (lesS PP invF r b).length = r.length := lesS_len (h b (by simp)).symm
    have := lessF_len (r := lesS PP invF r b) (base := t) fun x hx => by rw [h1]; exact h x (List.mem_cons_of_mem _ hx)
    rw [h1] at this
    exact this
theorem invF_red (a : Int) : 0 ≤ invF a ∧ invF a < 2305843009213693951 := ⟨Int.emod_nonneg _ (by decide), Int.emod_lt_of_pos _ (by decide)⟩
theorem r3_less {r : List Int} {base : List (List Int)} {H : Hp} {d n : Nat} (hr : RedR r) (hl : r.length ≤ 1000) (hb : ∀ b ∈ base, RedR b ∧ b.length = r.length ∧ fst b < r.length) (hbl : base.length ≤ 1000) (hn : base.length = n) (hH : H[d]? = some (.clo (base.map fun r => [cUr r]) false)) :
    TV.S 109 [.one (.c (cUr r)), .one (.sl d 0 n n)] H = some (.one (.sl (H.length + 1) 0 r.length r.length), H ++ [.clo [] false, rowE (lessF PP invF r base)]) := by
  refine run109 (by simp) (by simp) ?_
  subst hn
  have ha := vappend_eq (P := Tryz.prog) (H := H ++ [.clo [] false, .clo [] false]) (t := 57) (tx := 57) (id := H.length + 1) (n := 0) (l := []) (xs := r.map cU) (x := .one (.c (cUr r))) es57 es57 el37
    (by simp) rfl rfl (by simp) (by intro e he; obtain ⟨c, -, rfl⟩ := List.mem_map.1 he; rfl) (by simp only [List.length_map]; omega) (by simp only [List.length_map]; omega)
  simp [cUr] at ha
  have hHd : ∀ T : Hp, (H ++ T)[d]? = some (.clo (base.map fun r => [cUr r]) false) := fun T => get_app T hH
  have hrow : ∀ q : List Int, (H ++ [Ent.clo [] false, Ent.clo (q.map cU) false])[H.length + 1]? = some (.clo (q.map cU) false) := fun q => by simp
  simp only [cUr] at hHd
  simp -implicitDefEqProofs [Tryz.f109, cUr, vmove, isNil, ha, hHd]
  obtain ⟨I, hI⟩ : ∃ I : Nat → St → Prop, ∀ k s', I k s' ↔ (∃ e i O, s' = ⟨e, H ++ [.clo [] false, rowE O]⟩ ∧ e 0 = .one (.c (cUr r)) ∧ e 5 = .one (.sl (H.length + 1) 0 r.length r.length) ∧ e 14 = .one (.sl d 0 base.length base.length) ∧ e 15 = vI .i64 base.length ∧ e 16 = vI .i64 (i : Nat) ∧ (i + k = base.length) ∧ (O = lessF PP invF r (base.take i))) := ⟨_, fun _ _ => Iff.rfl⟩
  refine wpL_ind I ?_ base.length _ ((hI _ _).2 ⟨_, 0, r, (by first | rfl | (simp [cUr, rowE]; done) | (simp [cUr, rowE]; rfl) | (simp [cUr, rowE]; and_intros <;> rfl)), by simp [cUr], by simp, by simp, by simp, by simp, by omega, rfl⟩)
  intro k stI hstI
  obtain ⟨e, i, O, rfl, e0, e5, e14, e15, e16, hi, hO⟩ := (hI _ _).1 hstI
  have hbt : ∀ b ∈ base.take i, b.length = r.length := fun b h => (hb b (List.mem_of_mem_take h)).2.1
  have hOl : O.length = r.length := by rw [hO]; exact lessF_len hbt
  have hOr : RedR O := by rw [hO]; exact lessF_red hr
  by_cases c : i < base.length
  rotate_left
  · have c' : ¬ (i : Int) < base.length := by omega
    have h1 : lessF PP invF r base = O := by rw [hO, List.take_of_length_le (by omega)]
    rw [h1]
    simp -implicitDefEqProofs [e5, e15, e16, c', rowE, vmove, isNil]
  have c' : (i : Int) < base.length := by omega
  obtain ⟨b, hbe⟩ : ∃ b, base[i] = b := ⟨_, rfl⟩
  have hbi : base[i]? = some b := by rw [List.getElem?_eq_getElem c, hbe]
  obtain ⟨b1, b2, b3⟩ := hb b (hbe ▸ List.getElem_mem c)
  have hO2 : lesS PP invF O b = lessF PP invF r (base.take (i + 1)) := by rw [List.take_add_one, hbi, hO]; exact (lessF_snoc _ _ _).symm
  unfold lesS at hO2
  have hF := r3_first b1 (by omega)
  obtain ⟨p, hp⟩ : ∃ p, fst b = p := ⟨_, rfl⟩
  rw [hp] at hF b3 hO2
  obtain ⟨u, hu⟩ : ∃ u, O[p]'(by omega) = u := ⟨_, rfl⟩
  obtain ⟨v, hv⟩ : ∃ v, b[p]'(by omega) = v := ⟨_, rfl⟩
  have hui : O[p]? = some u := by rw [List.getElem?_eq_getElem (by omega), hu]
  have hvi : b[p]? = some v := by rw [List.getElem?_eq_getElem (by omega), hv]
  have u01 := hOr u (hu ▸ List.getElem_mem _)
  have v01 := b1 v (hv ▸ List.getElem_mem _)
  have hIv := r3_inverse (a := v) v01.1 (by omega)
  rw [at0_get (r := O) (by omega), at0_get (r := b) (by omega), hu, hv] at hO2
  obtain ⟨w, hw⟩ : ∃ w, invF v = w := ⟨_, rfl⟩
  have w01 := invF_red v
  rw [hw] at hIv w01 hO2
  have hM := r1_Mul (a := u) (b := w) u01.1 (by omega) w01.1 (by omega)
  obtain ⟨f, hf⟩ : ∃ f, u * w % 2305843009213693951 = f := ⟨_, rfl⟩
  have f01 := mul_red u w
  have hf2 : u * w % PP = f := hf
  rw [hf] at hM f01
  rw [hf2] at hO2
  have hpO : (p : Int) < r.length := by omega
  have hpb : (p : Int) < b.length := by omega
  simp only [cUr] at hF
  simp -implicitDefEqProofs [e5, e14, e15, e16, c', hHd, hbi, hF, hui, hvi, hIv, hM, cU, rowE, hOl, vmove, isNil]
  refine ⟨by omega, ?_⟩
  obtain ⟨O2, hE⟩ : ∃ O2, elm PP f b O = O2 := ⟨_, rfl⟩
  have hE2 : O2.length = O.length := by rw [← hE, elm_len _ _ (by omega)]
  have hEr : RedR O2 := by rw [← hE]; exact elm_red
  rw [hE] at hO2
  have w_i : IntKind.i64.wrap ((i : Int) + 1) = ((i + 1 : Nat) : Int) := by rw [w64_id (by omega) (by omega)]; omega
  refine ⟨by omega, ?_⟩
  obtain ⟨J, hJ⟩ : ∃ J : Nat → St → Prop, ∀ k2 s', J k2 s' ↔ (∃ e j, s' = ⟨e, H ++ [.clo [] false, rowE (mixR O O2 j)]⟩ ∧ e 0 = .one (.c (cUr r)) ∧ e 5 = .one (.sl (H.length + 1) 0 r.length r.length) ∧ e 7 = .one (.c (cUr b)) ∧ e 9 = .one (.c (.v (.int .u64 f))) ∧ e 10 = vI .i64 (j : Nat) ∧ e 14 = .one (.sl d 0 base.length base.length) ∧ e 15 = vI .i64 base.length ∧ e 16 = vI .i64 (i : Nat) ∧ (j + k2 = r.length)) := ⟨_, fun _ _ => Iff.rfl⟩
  refine wpL_ind J ?_ r.length _ ((hJ _ _).2 ⟨_, 0, (by first | rfl | (simp [rowE, mixR_zero]; done) | (simp [rowE, mixR_zero]; rfl) | (simp [e0, e5, e14, e15, e16, cUr, rowE, mixR_zero]; and_intros <;> rfl)), by simp [e0, cUr], by simp [e5], by simp [cUr], by simp, by simp, by simp [e14], by simp [e15], by simp [e16], by omega⟩)
  clear e0 e5 e14 e15 e16
  intro k2 stJ hstJ
  obtain ⟨e, j, rfl, e0, e5, e7, e9, e10, e14, e15, e16, hj⟩ := (hJ _ _).1 hstJ
  have hml : (mixR O O2 j).length = r.length := by rw [mixR_len, hOl]
  by_cases cj : j < r.length
  · have cj' : (j : Int) < r.length := by omega
    obtain ⟨x, hx⟩ : ∃ x, O[j]'(by omega) = x := ⟨_, rfl⟩
    obtain ⟨y, hy⟩ : ∃ y, b[j]'(by omega) = y := ⟨_, rfl⟩
    have hxi : (mixR O O2 j)[j]? = some x := by rw [mixR_get (by omega) (Nat.le_refl _), hx]
    have hyi : b[j]? = some y := by rw [List.getElem?_eq_getElem (by omega), hy]
    have x01 := hOr x (hx ▸ List.getElem_mem _)
    have y01 := b1 y (hy ▸ List.getElem_mem _)
    have hMj := r1_Mul (a := f) (b := y) f01.1 (by omega) y01.1 (by omega)
    have m01 := mul_red f y
    obtain ⟨m, hm⟩ : ∃ m, f * y % 2305843009213693951 = m := ⟨_, rfl⟩
    rw [hm] at hMj m01
    have hS := r1_Sub (a := x) (b := m) x01.1 (by omega) m01.1 (by omega)
    obtain ⟨z, hz⟩ : ∃ z, (x - m) % 2305843009213693951 = z := ⟨_, rfl⟩
    rw [hz] at hS
    have hzo : O2[j]'(by omega) = z := by
      simp only [← hE, elm, List.getElem_zipWith, hx, hy]
      rw [← hz, ← hm]
    have hset : (mixR O O2 j).set j z = mixR O O2 (j + 1) := by rw [← mixR_set (by omega) (by omega), hzo]
    have hst : vstore Tryz.prog false (H ++ [.clo [] false, rowE (mixR O O2 j)]) 37 (.one (.ptr ⟨H.length + 1, j, 0, r.length⟩)) (.one (.c (.v (.int .u64 z)))) = some (H ++ [.clo [] false, rowE (mixR O O2 (j + 1))]) := by
      rw [st_row (id := H.length + 1) (r := mixR O O2 j) (by simp) (by omega) hml, hset]
      simp
    simp only [rowE] at hst
    have w_j : IntKind.i64.wrap ((j : Int) + 1) = ((j + 1 : Nat) : Int) := by rw [w64_id (by omega) (by omega)]; omega
    simp -implicitDefEqProofs [e5, e7, e9, e10, cj', hxi, hyi, hMj, hS, hst, cUr, cU, rowE, hml, vmove, isNil]
    refine ⟨cj, ?_⟩
    exact ⟨(k2 - 1), by omega, (hJ _ _).2 ⟨_, j + 1, (by first | rfl | (simp [e0, e5, e7, e9, e14, e15, e16, w_j, cUr, rowE]; done) | (simp [e0, e5, e7, e9, e14, e15, e16, w_j, cUr, rowE]; rfl) | (simp [e0, e5, e7, e9, e14, e15, e16, w_j, cUr, rowE]; and_intros <;> rfl)), by simp [e0, w_j, cUr], by simp [e5, w_j], by simp [e7, w_j, cUr], by simp [e9, w_j], by simp [w_j], by simp [e14, w_j], by simp [e15, w_j], by simp [e16, w_j], by omega⟩⟩
  · have cj' : ¬ (j : Int) < r.length := by omega
    rw [mixR_all (by omega) (by omega)]
    simp -implicitDefEqProofs [e5, e10, e16, cj', rowE, hE2, hOl, vmove, isNil]
    exact ⟨(k - 1), by omega, (hI _ _).2 ⟨_, i + 1, O2, (by first | rfl | (simp [e0, e5, e14, e15, w_i, cUr, rowE]; done) | (simp [e0, e5, e14, e15, w_i, cUr, rowE]; rfl) | (simp [e0, e5, e14, e15, w_i, cUr, rowE]; and_intros <;> rfl)), by simp [e0, w_i, cUr], by simp [e5, w_i], by simp [e14, w_i], by simp [e15, w_i], by simp [w_i], by omega, hO2⟩⟩
end Go.Proofs.YtmgnmnogiajlgaaGreatF
end

section
/- The document's solver: a base of rows, their rank. -/
set_option maxRecDepth 8192
set_option maxHeartbeats 2000000
namespace Go.Proofs.YtmgnmnogiajlgaaGreatF
open Go Go.Proofs.Vm Go.Proofs.Vm.Fld

theorem r3_Base {rows : List (List Int)} {w : Nat} (hr : ∀ r ∈ rows, RedR r ∧ r.length = w) (hw : w ≤ 1000) (hl : rows.length ≤ 1000) : TV.pu 73 [.one (cUm rows)] = some (.one (cUm (baseF PP invF rows))) := by
  refine run73 (by simp) ?_
  obtain ⟨res, hres⟩ : ∃ res, baseF PP invF rows = res := ⟨_, rfl⟩
  rw [hres]
  simp -implicitDefEqProofs [Tryz.f73, cUr, cUm, vmove, isNil]
  obtain ⟨I, hI⟩ : ∃ I : Nat → St → Prop, ∀ k s', I k s' ↔ (∃ e G d i B, s' = ⟨e, G⟩ ∧ e 0 = .one (.c (cUm rows)) ∧ e 3 = .one (.sl d 0 B.length B.length) ∧ e 4 = vI .i64 (i : Nat) ∧ (i + k = rows.length) ∧ (G[d]? = some (.clo (B.map fun r => [cUr r]) false)) ∧ (B = (rows.take i).foldl (basS PP invF) []) ∧ (B.length ≤ i) ∧ (∀ b ∈ B, RedR b ∧ b.length = w ∧ fst b < w)) := ⟨_, fun _ _ => Iff.rfl⟩
  refine wpL_ind I ?_ rows.length _ ((hI _ _).2 ⟨_, _, 1, 0, [], (by first | rfl | (simp [cUr, cUm]; done) | (simp [cUr, cUm]; rfl) | (simp [cUr, cUm]; and_intros <;> rfl)), by simp [cUr, cUm], by simp, by simp, by omega, rfl, rfl, by simp, by simp⟩)
  intro k stI hstI
  obtain ⟨e, G, d, i, B, rfl, e0, e3, e4, hi, hG, hB, hBl, hBr⟩ := (hI _ _).1 hstI
  by_cases c : i < rows.length
  rotate_left
  · have c' : ¬ (i : Int) < rows.length := by omega
    have h1 : res = B := by rw [hB, ← hres, List.take_of_length_le (by omega)]; rfl
    rw [h1]
    simp -implicitDefEqProofs [e0, e3, e4, c', hG, cUr, cUm, vmove, isNil]
    exact List.take_of_length_le (by simp)
  have c' : (i : Int) < rows.length := by omega
  obtain ⟨r, hre⟩ : ∃ r, rows[i] = r := ⟨_, rfl⟩
  have hri : rows[i]? = some r := by rw [List.getElem?_eq_getElem c, hre]
  obtain ⟨r1, r2⟩ := hr r (hre ▸ List.getElem_mem c)
  have hL := r3_less r1 (by omega) (fun b hb => ⟨(hBr b hb).1, by rw [(hBr b hb).2.1, r2], by rw [r2]; exact (hBr b hb).2.2⟩) (by omega : B.length ≤ 1000) rfl hG
  have hx1 : RedR (lessF PP invF r B) := lessF_red r1
  have hx2 : (lessF PP invF r B).length = w := by rw [lessF_len fun b hb => by rw [(hBr b hb).2.1, r2]]; exact r2
  have hB2 : basS PP invF B r = (rows.take (i + 1)).foldl (basS PP invF) [] := by rw [List.take_add_one, hri, List.foldl_append, ← hB]; rfl
  unfold basS at hB2
  obtain ⟨x, hx⟩ : ∃ x, lessF PP invF r B = x := ⟨_, rfl⟩
  rw [hx] at hL hx1 hx2 hB2
  have hF := r3_first hx1 (by omega)
  have hfl := fst_le x
  obtain ⟨p, hp⟩ : ∃ p, fst x = p := ⟨_, rfl⟩
  rw [hp] at hF hB2 hfl
  rw [hx2] at hB2 hfl
  have w_i : IntKind.i64.wrap ((i : Int) + 1) = ((i + 1 : Nat) : Int) := by rw [w64_id (by omega) (by omega)]; omega
  obtain ⟨G2, hG2⟩ : ∃ G2, (G ++ [Ent.clo [] false, .clo (x.map cU) true, .clo [[.arr (x.map cU)]] false]).set d (.clo ((B ++ [x]).map fun r => [cUr r]) false) = G2 := ⟨_, rfl⟩
  have g2 : G2[d]? = some (.clo ((B ++ [x]).map fun r => [cUr r]) false) := by rw [← hG2]; exact set_self (e0 := _) (get_app _ hG)
  have ha : vappend Tryz.prog (G ++ [Ent.clo [] false, .clo (x.map cU) true, .clo [[.arr (x.map cU)]] false]) 56 56 (.one (.sl d 0 B.length B.length)) (.one (.sl (G.length + 2) 0 1 1)) = some (.one (.sl d 0 (B.length + 1) (B.length + 1)), G2) := by
    have h := ap_um (G := G ++ [Ent.clo [] false, .clo (x.map cU) true]) x (get_app _ hG) rfl (by omega)
    rw [List.append_assoc, List.length_append] at h
    rw [← hG2]
    exact h
  have htk : List.take w (x.map cU) = x.map cU := List.take_of_length_le (by simp; omega)
  rw [r2] at hL
  simp only [cUr, rowE] at hF hL
  have hx3 : (x.map cU).length = w := by simp [hx2]
  by_cases hpw : p < w
  · rw [if_pos hpw] at hB2
    have hpw' : (p : Int) < w := by omega
    simp -implicitDefEqProofs [e0, e3, e4, c', hri, hL, hF, hx3, htk, hpw', cUr, cUm, vmove, isNil, cellsOf?, fzParts, setAll, rchParts, rch, frzAll, Ent.frz, ap_mod, vbuildSlice_eq es56 el57, ha]
    have hBr2 : ∀ b ∈ B ++ [x], RedR b ∧ b.length = w ∧ fst b < w := fun b hb => by
      rcases List.mem_append.1 hb with h | h
      · exact hBr b h
      · rw [List.mem_singleton.1 h, hp]; exact ⟨hx1, hx2, hpw⟩
    exact ⟨(k - 1), by omega, (hI _ _).2 ⟨_, G2, d, i + 1, B ++ [x], (by first | rfl | (simp [e0, w_i, cUr, cUm]; done) | (simp [e0, w_i, cUr, cUm]; rfl) | (simp [e0, w_i, cUr, cUm]; and_intros <;> rfl)), by simp [e0, w_i, cUr, cUm], by simp [w_i], by simp [w_i], by omega, g2, hB2, by simp; omega, hBr2⟩⟩
  · rw [if_neg hpw] at hB2
    have hpw' : ¬ (p : Int) < w := by omega
    simp -implicitDefEqProofs [e0, e3, e4, c', hri, hL, hF, hx3, htk, hpw', cUr, cUm, vmove, isNil]
    exact ⟨(k - 1), by omega, (hI _ _).2 ⟨_, _, d, i + 1, B, (by first | rfl | (simp [e0, w_i, cUr, cUm]; done) | (simp [e0, w_i, cUr, cUm]; rfl) | (simp [e0, w_i, cUr, cUm]; and_intros <;> rfl)), by simp [e0, w_i, cUr, cUm], by simp [e3, w_i], by simp [w_i], by omega, get_app _ hG, hB2, by omega, hBr⟩⟩
theorem r3_Rank {rows : List (List Int)} {w : Nat} (hr : ∀ r ∈ rows, RedR r ∧ r.length = w) (hw : w ≤ 1000) (hl : rows.length ≤ 1000) : TV.pu 42 [.one (cUm rows)] = some (cI .i64 ((baseF PP invF rows).length : Nat)) := by
  refine run42 (by simp) ?_
  have hB := r3_Base hr hw hl
  obtain ⟨Bs, hBs⟩ : ∃ Bs, baseF PP invF rows = Bs := ⟨_, rfl⟩
  rw [hBs] at hB ⊢
  simp only [cUm, cUr] at hB
  simp -implicitDefEqProofs [Tryz.f42, cUm, cUr, hB, vmove, isNil]
theorem redR_id {r : List Int} (h : RedR r) : redR r = r := by
  unfold redR
  conv => rhs; rw [← List.map_id r]
  exact List.map_congr_left fun n hn => Int.emod_eq_of_lt (h n hn).1 (h n hn).2
theorem red_of {r : List Int} {w : Nat} (h : RedR r) (hl : r.length = w) : Red PP w r := ⟨hl, fun j => by
  by_cases c : j < r.length
  · rw [at0_get c]; exact h _ (List.getElem_mem c)
  · have : at0 r j = 0 := by simp [at0, List.getD_eq_getElem?_getD, List.getElem?_eq_none (Nat.le_of_not_lt c)]
    rw [this]; decide⟩
theorem r17_Error {m : List (List Int)} {b : List Int} {n : Nat} (hm : ∀ r ∈ m, RedR r ∧ r.length = n) (hb : RedR b) (hbl : b.length = m.length) (hml : m.length ≤ 1000) (hn : n ≤ 500) : TV.pu 18 [.one (cUm m), .one (cUr b), cI .i64 n] = some (cI .i64 (solR m b n).1) := by
  refine run18 (by simp) ?_
  have hWm : ∀ r ∈ wideR m b, RedR r ∧ r.length = n + 1 := fun r hr => by
    obtain ⟨j, h1, h2, rfl⟩ := wide_mem hr
    refine ⟨fun x hx => ?_, by rw [List.length_append, (hm _ (List.getElem_mem h1)).2]; rfl⟩
    rcases List.mem_append.1 hx with h | h
    · exact (hm _ (List.getElem_mem h1)).1 x h
    · rw [List.mem_singleton.1 h]; exact hb _ (List.getElem_mem h2)
  have hWl : (wideR m b).length = m.length := by simp [wideR, hbl]
  have hWt : (wideR m b).map (·.take n) = m := by
    apply List.ext_getElem (by simp [hWl])
    intro i h1 h2
    have h3 := (hm m[i] (List.getElem_mem h2)).2
    simp [wideR, ← h3]
  have hid : (wideR m b).map redR = wideR m b := by
    conv => rhs; rw [← List.map_id (wideR m b)]
    exact List.map_congr_left fun r hr => redR_id (hWm r hr).1
  have hE := err_eq inv_ok (W := wideR m b) (n := n) fun r hr => red_of (hWm r hr).1 (hWm r hr).2
  unfold solR
  rw [hid, ← hE]
  unfold errF
  rw [hWt]
  have hR1 := r3_Rank hm (by omega) hml
  have hWd := r3_Wide hbl hml fun r hr => by rw [(hm r hr).2]; omega
  have hR2 := r3_Rank hWm (by omega) (by rw [hWl]; exact hml)
  obtain ⟨W, hW⟩ : ∃ W, wideR m b = W := ⟨_, rfl⟩
  rw [hW] at hWd hR2 ⊢
  obtain ⟨k1, hk1⟩ : ∃ k, (baseF PP invF m).length = k := ⟨_, rfl⟩
  obtain ⟨k2, hk2⟩ : ∃ k, (baseF PP invF W).length = k := ⟨_, rfl⟩
  rw [hk1] at hR1 ⊢
  rw [hk2] at hR2 ⊢
  simp only [cUm, cUr] at hR1 hR2 hWd
  by_cases c1 : k1 < k2
  · have c1' : (k1 : Int) < k2 := by omega
    simp -implicitDefEqProofs [Tryz.f18, cUm, cUr, hR1, hR2, hWd, c1, c1', vmove, isNil]
  · have c1' : ¬ (k1 : Int) < k2 := by omega
    by_cases c2 : k1 < n
    · have c2' : (k1 : Int) < n := by omega
      simp -implicitDefEqProofs [Tryz.f18, cUm, cUr, hR1, hR2, hWd, c1, c1', c2, c2', vmove, isNil]
    · have c2' : ¬ (k1 : Int) < n := by omega
      simp -implicitDefEqProofs [Tryz.f18, cUm, cUr, hR1, hR2, hWd, c1, c1', c2, c2', vmove, isNil]
end Go.Proofs.YtmgnmnogiajlgaaGreatF
end

section
/- Joint: one round, in the caller's memory. -/
set_option maxRecDepth 8192
set_option maxHeartbeats 2000000
namespace Go.Proofs.YtmgnmnogiajlgaaGreatF
open Go Go.Proofs.Vm

def cRads (l : List Rad) : CV := .arr (l.map cRad)
theorem rads_Clone0 {H : Hp} : TV.S 27 [.one (.c (cRads []))] H = some (.one (.sl H.length 0 0 0), H ++ [.clo [] false]) := by
  refine TT_baseS ?_
  simp only [cfg, strCloTab, cRads, List.map_nil]
  rfl
theorem rads_Clone1 {r : List Rad} {H : Hp} (h0 : r ≠ []) (hl : r.length ≤ 100000) : TV.S 27 [.one (.c (cRads r))] H = some (.one (.sl (H.length + 1) 0 r.length r.length), H ++ [.clo [] false, .clo (r.map cRad) false]) := by
  obtain ⟨x, t, rfl⟩ : ∃ h t, r = h :: t := by cases r with | nil => exact absurd rfl h0 | cons h t => exact ⟨h, t, rfl⟩
  refine run27 rfl (by simp) (by simp) ?_
  have ha := vappend_eq (P := Tryz.prog) (H := H ++ [.clo [] false, .clo [] false]) (t := 22) (tx := 22) (id := H.length + 1) (n := 0) (l := []) (xs := (x :: t).map cRad) (x := .one (.c (cRads (x :: t)))) es22 es22 el48
    (by simp) rfl rfl (by simp) (by intro e he; obtain ⟨c, -, rfl⟩ := List.mem_map.1 he; rfl) (by simp only [List.length_map]; omega) (by simp only [List.length_map]; omega)
  simp [cRads] at ha
  simp [Tryz.f27, cRads, vmove, isNil, bin_sln es22, bs_zero es22 el48, ha]
theorem rads_Clone {r : List Rad} {H : Hp} (hl : r.length ≤ 100000) : ∃ K : Hp, (∀ (id : Nat) e, H[id]? = some e → K[id]? = some e) ∧ H.length ≤ K.length ∧ TV.S 27 [.one (.c (cRads r))] H = some (.one (.sl K.length 0 r.length r.length), K ++ [.clo (r.map cRad) false]) := by
  by_cases h : r = []
  · subst h; exact ⟨H, fun _ _ h => h, Nat.le_refl _, rads_Clone0⟩
  · refine ⟨H ++ [.clo [] false], fun id e he => ?_, by simp, ?_⟩
    · rw [List.getElem?_append_left (List.getElem?_eq_some_iff.1 he).1]; exact he
    · rw [rads_Clone1 h hl, List.length_append, List.length_singleton, List.append_assoc]; rfl
def topT (L : List (Nat × Sw)) : List (List Cell) := L.map fun x => [.sl x.1 0 x.2.2.length x.2.2.length]
/-- Switches in memory: radars in one place, what was told in places of their own. -/
structure DH (H : Hp) (a b : Nat) (L : List (Nat × Sw)) : Prop where
  rad : H[a]? = some (.clo (L.map fun x => cRad x.2.1) false)
  top : H[b]? = some (.opn (topT L) false)
  row : ∀ k (h : k < L.length), H[L[k].1]? = some (.clo (L[k].2.2.map cStr) false)
  nd : (a :: b :: L.map (·.1)).Nodup
theorem DH.app {H : Hp} {a b : Nat} {L : List (Nat × Sw)} (h : DH H a b L) (T : Hp) : DH (H ++ T) a b L :=
  ⟨by rw [List.getElem?_append_left (List.getElem?_eq_some_iff.1 h.rad).1]; exact h.rad, by rw [List.getElem?_append_left (List.getElem?_eq_some_iff.1 h.top).1]; exact h.top, fun k hk => by rw [List.getElem?_append_left (List.getElem?_eq_some_iff.1 (h.row k hk)).1]; exact h.row k hk, h.nd⟩
theorem DH.ab {H : Hp} {a b : Nat} {L : List (Nat × Sw)} (h : DH H a b L) : a ≠ b := fun e => (List.nodup_cons.1 h.nd).1 (by rw [e]; exact List.mem_cons_self)
theorem DH.na {H : Hp} {a b : Nat} {L : List (Nat × Sw)} (h : DH H a b L) {k : Nat} (hk : k < L.length) : L[k].1 ≠ a := fun e => (List.nodup_cons.1 h.nd).1 (List.mem_cons_of_mem _ (List.mem_map.2 ⟨L[k], List.getElem_mem hk, e⟩))
theorem DH.nb {H : Hp} {a b : Nat} {L : List (Nat × Sw)} (h : DH H a b L) {k : Nat} (hk : k < L.length) : L[k].1 ≠ b := fun e => (List.nodup_cons.1 (List.nodup_cons.1 h.nd).2).1 (List.mem_map.2 ⟨L[k], List.getElem_mem hk, e⟩)
theorem DH.inj {H : Hp} {a b : Nat} {L : List (Nat × Sw)} (h : DH H a b L) {j k : Nat} (hj : j < L.length) (hk : k < L.length) (e : L[j].1 = L[k].1) : j = k := by
  have := (List.nodup_cons.1 (List.nodup_cons.1 h.nd).2).2
  exact (List.getElem_inj (h₀ := by simpa using hj) (h₁ := by simpa using hk) this).1 (by simpa using e)
theorem st_row1 {H : Hp} {b k n : Nat} {l : List (List Cell)} {c c' : Cell} (h : H[b]? = some (.opn l false)) (hk : l[k]? = some [c']) (hn : l.length = n) :
    vstore Tryz.prog true H 35 (.one (.ptr ⟨b, k, 0, n⟩)) (.one c) = some (H.set b (.opn (l.set k [c]) false)) := by
  have hlt := (List.getElem?_eq_some_iff.1 hk).1
  have e : l.modify k (fun e => Vm.wr e 0 [c]) = l.set k [c] := by
    apply List.ext_getElem (by simp)
    intro i h1 h2
    rw [List.getElem_modify, List.getElem_set]
    by_cases q : k = i
    · subst q
      have : l[k] = [c'] := by rw [List.getElem?_eq_getElem hlt] at hk; exact Option.some.inj hk
      simp [this, wr]
    · rw [if_neg q, if_neg q]
  simp [vstore, cellsOf?, h, hn, hk, Ent.wrO, e]
theorem cRad_len (R : Rad) : (cRad R).length = 5 := rfl
theorem st_rad {H : Hp} {nest : Bool} {a k n : Nat} {l : List Rad} {R : Rad} (h : H[a]? = some (.clo (l.map cRad) false)) (hk : k < l.length) (hn : l.length = n) :
    vstore Tryz.prog nest H 48 (.one (.ptr ⟨a, k, 0, n⟩)) (.agg ((cRad R).map .c)) = some (H.set a (.clo ((l.set k R).map cRad) false)) := by
  subst hn
  have e : (List.map cRad l).modify k (fun e => Vm.wr e 0 (cRad R)) = List.map cRad (l.set k R) := by
    rw [List.map_set]
    apply List.ext_getElem (by simp)
    intro i h1 h2
    rw [List.getElem_modify, List.getElem_set]
    by_cases c : k = i
    · subst c; simp [cRad, wr]
    · rw [if_neg c, if_neg c]
  simp only [cRad, cRws, cRw] at h e
  simp [vstore, cellsOf?, h, hk, hasRef, Ent.wrC, cRad, cRws, cRw, e]
end Go.Proofs.YtmgnmnogiajlgaaGreatF
end

section
/- Joint: one round, walked. -/
set_option maxRecDepth 8192
set_option maxHeartbeats 2000000
namespace Go.Proofs.YtmgnmnogiajlgaaGreatF
open Go Go.Proofs.Vm

theorem topT_len (L : List (Nat × Sw)) : (topT L).length = L.length := by simp [topT]
theorem DH.step {H : Hp} {a b n : Nat} {L : List (Nat × Sw)} (h : DH H a b L) {k : Nat} (hk : k < L.length) (hn : L.length = n) {x : Nat × Sw} (hx : L[k] = x) (hm : x.2.2.length ≤ 100000) (key : ByteArray) (R : Rad) : ∃ H2 H3 H4,
    vappendN Tryz.prog true (H ++ [.clo [[.v (.string key)]] false]) 35 35 (.one (.sl x.1 0 x.2.2.length x.2.2.length)) (.one (.sl H.length 0 1 1)) = some (.one (.sl x.1 0 (x.2.2.length + 1) (x.2.2.length + 1)), H2) ∧
    vstore Tryz.prog true H2 35 (.one (.ptr ⟨b, k, 0, n⟩)) (.one (.sl x.1 0 (x.2.2.length + 1) (x.2.2.length + 1))) = some H3 ∧
    (H3[a]? = some (.clo (L.map fun x => cRad x.2.1) false) ∧ (∀ (q : Nat) e, q ≠ b → q ≠ x.1 → H[q]? = some e → H3[q]? = some e) ∧ H2[b]? = some (.opn (topT L) false)) ∧
    vstore Tryz.prog true H3 48 (.one (.ptr ⟨a, k, 0, n⟩)) (.agg ((cRad R).map .c)) = some H4 ∧ DH H4 a b (L.set k (x.1, (R, x.2.2 ++ [key]))) ∧ H.length ≤ H4.length := by
  subst hx
  have hna := h.na hk
  have hnb := h.nb hk
  have hab := h.ab
  have hr := h.row k hk
  have hidlt := (List.getElem?_eq_some_iff.1 hr).1
  have hr1 : (H ++ [Ent.clo [[.v (.string key)]] false])[L[k].1]? = some (.clo (L[k].2.2.map cStr) false) := by rw [List.getElem?_append_left hidlt]; exact hr
  have e1 := vappend_eq (P := Tryz.prog) (H := H ++ [.clo [[.v (.string key)]] false]) (t := 35) (tx := 35) (id := L[k].1) (n := L[k].2.2.length) (l := L[k].2.2.map cStr) (xs := [[.v (.string key)]]) (x := .one (.sl H.length 0 1 1)) es35 es35 el9
    hr1 (by simp [elemsOf]) (by simp) (by intro e he; obtain ⟨y, -, rfl⟩ := List.mem_map.1 he; rfl) (by simp) (by simp only [List.length_singleton]; omega) (by simp only [List.length_singleton]; omega)
  rw [← vappendN_clo (by simp [elemsO])] at e1
  simp only [List.length_singleton] at e1
  obtain ⟨H2, hH2⟩ : ∃ H2, (H ++ [Ent.clo [[.v (.string key)]] false]).set L[k].1 (.clo (L[k].2.2.map cStr ++ [[.v (.string key)]]) false) = H2 := ⟨_, rfl⟩
  rw [hH2] at e1
  have g2 : ∀ (q : Nat) e, q ≠ L[k].1 → H[q]? = some e → H2[q]? = some e := fun q e hq he => by
    rw [← hH2, set_get hq, List.getElem?_append_left (List.getElem?_eq_some_iff.1 he).1]; exact he
  have g2id : H2[L[k].1]? = some (.clo ((L[k].2.2 ++ [key]).map cStr) false) := by rw [← hH2, set_self hr1, List.map_append]; rfl
  have htk : (topT L)[k]? = some [.sl L[k].1 0 L[k].2.2.length L[k].2.2.length] := by simp [topT, hk]
  have e2 := st_row1 (H := H2) (b := b) (k := k) (n := n) (c := .sl L[k].1 0 (L[k].2.2.length + 1) (L[k].2.2.length + 1)) (g2 b _ (fun e => hnb e.symm) h.top) htk (by rw [topT_len, hn])
  obtain ⟨H3, hH3⟩ : ∃ H3, H2.set b (.opn ((topT L).set k [.sl L[k].1 0 (L[k].2.2.length + 1) (L[k].2.2.length + 1)]) false) = H3 := ⟨_, rfl⟩
  rw [hH3] at e2
  have g3 : ∀ (q : Nat) e, q ≠ b → H2[q]? = some e → H3[q]? = some e := fun q e hq he => by rw [← hH3, set_get hq]; exact he
  have g3b : H3[b]? = some (.opn ((topT L).set k [.sl L[k].1 0 (L[k].2.2.length + 1) (L[k].2.2.length + 1)]) false) := by rw [← hH3]; exact set_self (g2 b _ (fun e => hnb e.symm) h.top)
  have g3a : H3[a]? = some (.clo (L.map fun x => cRad x.2.1) false) := g3 a _ hab (g2 a _ (fun e => hna e.symm) h.rad)
  have g3a' : H3[a]? = some (.clo ((L.map fun x => x.2.1).map cRad) false) := by rw [List.map_map]; exact g3a
  have e3 := st_rad (nest := true) (k := k) (n := n) (R := R) g3a' (by simpa using hk) (by simpa using hn)
  obtain ⟨H4, hH4⟩ : ∃ H4, H3.set a (.clo (((L.map fun x => x.2.1).set k R).map cRad) false) = H4 := ⟨_, rfl⟩
  rw [hH4] at e3
  have g4 : ∀ (q : Nat) e, q ≠ a → H3[q]? = some e → H4[q]? = some e := fun q e hq he => by rw [← hH4, set_get hq]; exact he
  refine ⟨H2, H3, H4, e1, e2, ⟨g3a, fun q e h1 h2 he => g3 q e h1 (g2 q e h2 he), g2 b _ (fun e => hnb e.symm) h.top⟩, e3, ⟨?_, ?_, fun j hj => ?_, ?_⟩, ?_⟩
  · rw [← hH4, set_self g3a]
    congr 2
    rw [List.map_set, List.map_set, List.map_map]
    rfl
  · rw [g4 b _ (fun e => hab e.symm) g3b]
    congr 2
    unfold topT
    rw [List.map_set]
    congr 1
    simp
  · have hj' : j < L.length := by simpa using hj
    rw [List.getElem_set]
    split
    · rename_i e
      subst e
      exact g4 _ _ hna (g3 _ _ hnb g2id)
    · rename_i e
      exact g4 _ _ (h.na hj') (g3 _ _ (h.nb hj') (g2 _ _ (fun e2 => e (h.inj hj' hk e2).symm) (h.row j hj')))
  · have : (L.set k (L[k].1, (R, L[k].2.2 ++ [key]))).map (·.1) = L.map (·.1) := by
      rw [List.map_set]
      apply List.ext_getElem (by simp)
      intro i h1 h2
      rw [List.getElem_set]
      split
      · rename_i e; subst e; simp
      · rfl
    rw [this]; exact h.nd
  · rw [← hH4, ← hH3, ← hH2]; simp
/-- What a round comes to. -/
def RoundQ (H : Hp) (a b : Nat) (L : List (Nat × Sw)) (v : AV) (K : Hp) : Prop := v = vB (jround (L.map (·.2))).isSome ∧ H.length ≤ K.length ∧ ∃ L', DH K a b L' ∧ L'.length = L.length ∧ L'.map (·.2) = (jround (L.map (·.2))).getD (L.map (·.2))
def takeTo (L : List (Nat × Sw)) (i : Nat) (key : ByteArray) (k : Nat) : List (Nat × Sw) := L.mapIdx fun j x => if j < k then (x.1, jtake i key j x.2) else x
theorem takeTo_len (L : List (Nat × Sw)) (i : Nat) (key : ByteArray) (k : Nat) : (takeTo L i key k).length = L.length := by simp [takeTo]
theorem takeTo_zero (L : List (Nat × Sw)) (i : Nat) (key : ByteArray) : takeTo L i key 0 = L := by
  apply List.ext_getElem (by simp [takeTo])
  intro j h1 h2
  simp [takeTo]
theorem takeTo_get {L : List (Nat × Sw)} {i k j : Nat} {key : ByteArray} (h : j < (takeTo L i key k).length) (h' : j < L.length) (hj : k ≤ j) : (takeTo L i key k)[j] = L[j] := by
  simp only [takeTo, List.getElem_mapIdx]
  rw [if_neg (by omega)]
theorem takeTo_succ {L : List (Nat × Sw)} {i k : Nat} {key : ByteArray} (h : k < L.length) : takeTo L i key (k + 1) = (takeTo L i key k).set k (L[k].1, jtake i key k L[k].2) := by
  apply List.ext_getElem (by simp [takeTo])
  intro j h1 h2
  rw [List.getElem_set]
  simp only [takeTo, List.getElem_mapIdx]
  by_cases e : k = j
  · subst e; rw [if_pos (by omega), if_pos rfl]
  · rw [if_neg e]
    by_cases e2 : j < k
    · rw [if_pos e2, if_pos (by omega)]
    · rw [if_neg e2, if_neg (by omega)]
theorem takeTo_skip {L : List (Nat × Sw)} {i k : Nat} {key : ByteArray} (h : k < L.length) (hh : jHit i key k L[k].2 = false) : takeTo L i key (k + 1) = takeTo L i key k := by
  rw [takeTo_succ h, jtake, hh, if_neg (by decide)]
  apply List.ext_getElem (by simp)
  intro j h1 h2
  rw [List.getElem_set]
  split
  · rename_i e
    subst e
    rw [takeTo_get h2 h (Nat.le_refl _)]
  · rfl
theorem takeTo_all {L : List (Nat × Sw)} {i k : Nat} {key : ByteArray} (h : L.length ≤ k) : (takeTo L i key k).map (·.2) = (L.map (·.2)).mapIdx (jtake i key) := by
  apply List.ext_getElem (by simp [takeTo])
  intro j h1 h2
  have hj : j < L.length := by simpa [takeTo] using h1
  simp only [takeTo, List.getElem_map, List.getElem_mapIdx]
  rw [if_pos (by omega)]
theorem st_box {G : Hp} {R : Rad} {c1 c2 : Ent} {a b c d e : Cell} : vstore Tryz.prog true (G ++ [.opn [[a, b, c, d, e]] false, c1, c2]) 48 (.one (.ptr ⟨G.length, 0, 0, 1⟩)) (.agg ((cRad R).map .c)) = some (G ++ [.opn [(cRad R).map .c] false, c1, c2]) := by
  simp [vstore, cellsOf?, cRad, Ent.wrO, wr]
theorem jn_round {H : Hp} {a b n : Nat} {L : List (Nat × Sw)} (hD : DH H a b L) (hok : JOk (L.map (·.2))) (hn : L.length = n) (hn64 : n ≤ 64) (hm : ∀ x ∈ L, x.2.2.length ≤ 100000) : ∃ v K, TV.S 28 [.one (.sl a 0 n n), .one (.sl b 0 n n)] H = some (v, K) ∧ RoundQ H a b L v K := by
  refine runX28 (by simp) (by rintro v K ⟨-, h, -⟩; exact h) ?_
  simp -implicitDefEqProofs [Tryz.f28, hD.rad, hn]
  obtain ⟨I, hI⟩ : ∃ I : Nat → St → Prop, ∀ k s', I k s' ↔ (∃ e G i, s' = ⟨e, G⟩ ∧ e 0 = .one (.sl a 0 n n) ∧ e 1 = .one (.sl b 0 n n) ∧ e 11 = .one (.sl a 0 n n) ∧ e 12 = vI .i64 n ∧ e 13 = vI .i64 (i : Nat) ∧ (i + k = n) ∧ (DH G a b L) ∧ (H.length ≤ G.length) ∧ (∀ j (hj : j < L.length), j < i → pureOf L[j].2.1 L[j].2.2 = none)) := ⟨_, fun _ _ => Iff.rfl⟩
  refine wpL_ind I ?_ n _ ((hI _ _).2 ⟨_, H, 0, (by first | rfl | (simp; done) | (simp; rfl) | (simp; and_intros <;> rfl)), by simp, by simp, by simp, by simp, by simp, by omega, hD, Nat.le_refl _, fun j hj hji => by omega⟩)
  intro k stI hstI
  obtain ⟨e, G, i, rfl, e0, e1, e11, e12, e13, hi, hG, hGl, hno⟩ := (hI _ _).1 hstI
  by_cases c : i < n
  · have c' : (i : Int) < n := by omega
    have hiL : i < L.length := by omega
    obtain ⟨x, hx⟩ : ∃ x, L[i] = x := ⟨_, rfl⟩
    have hxi : L[i]? = some x := by rw [List.getElem?_eq_getElem hiL, hx]
    have hxm : x ∈ L := hx ▸ List.getElem_mem hiL
    obtain ⟨ks, kl, kok⟩ := hok x.2 (List.mem_map.2 ⟨x, hxm, rfl⟩)
    have hxt := hm x hxm
    have hP := rd_Pure (told := x.2.2) ks kl kok (by omega)
    have hAp : ∀ T : Hp, (G ++ T)[a]? = some (.clo (L.map fun x => cRad x.2.1) false) := fun T => (hG.app T).rad
    have hTp : ∀ T : Hp, (G ++ T)[b]? = some (.opn (topT L) false) := fun T => (hG.app T).top
    have hRp : ∀ T : Hp, (G ++ T)[x.1]? = some (.clo (x.2.2.map cStr) false) := fun T => by have := (hG.app T).row i hiL; rw [hx] at this; exact this
    have htT : (topT L)[i]? = some [.sl x.1 0 x.2.2.length x.2.2.length] := by simp [topT, hxi]
    obtain ⟨id, R, told⟩ := x
    dsimp only at ks kl kok hxt hP hAp hTp hRp htT
    have w_i : IntKind.i64.wrap ((i : Int) + 1) = ((i + 1 : Nat) : Int) := by rw [w64_id (by omega) (by omega)]; omega
    simp only [cRad, cRws, cRw, cSs] at hP
    cases hpo : pureOf R told with
    | none =>
      rw [hpo] at hP
      simp only [pureA] at hP
      simp -implicitDefEqProofs [e1, e11, e12, e13, c', hG.rad, hTp, hRp, htT, hxi, hn, topT_len, take_str, cRad, cRws, cRw, hP, vmove, isNil, vstore, cellsOf?, Ent.wrO, wr]
      refine ⟨c, ?_⟩
      refine ⟨(k - 1), by omega, (hI _ _).2 ⟨_, _, i + 1, (by first | rfl | (simp [e0, e1, e11, e12, w_i]; done) | (simp [e0, e1, e11, e12, w_i]; rfl) | (simp [e0, e1, e11, e12, w_i]; and_intros <;> rfl)), by simp [e0, w_i], by simp [e1, w_i], by simp [e11, w_i], by simp [e12, w_i], by simp [w_i], by omega, hG.app _, by rw [List.length_append]; omega, ?_⟩⟩
      intro j hj hji
      by_cases ej : j = i
      · subst ej; rw [hx]; exact hpo
      · exact hno j hj (by omega)
    | some key =>
      rw [hpo] at hP
      simp only [pureA] at hP
      simp -implicitDefEqProofs [e0, e1, e11, e12, e13, c', hG.rad, hAp, hTp, hRp, htT, hxi, hn, topT_len, take_str, cRad, cRws, cRw, hP, vmove, isNil, vstore, cellsOf?, Ent.wrO, wr]
      refine ⟨c, ?_⟩
      have hfi : jfind (L.map (·.2)) = some (i, key) := jfind_eq (by simpa using hiL) (by simp only [List.getElem_map, hx]; exact hpo) (fun j hj hji => by
        have hj' : j < L.length := by simpa using hj
        simp only [List.getElem_map]
        exact hno j hj' hji)
      have hk37 := pureOf_size kok hpo
      obtain ⟨J, hJ⟩ : ∃ J : Nat → St → Prop, ∀ k2 s', J k2 s' ↔ (∃ e G k, s' = ⟨e, G⟩ ∧ e 0 = .one (.sl a 0 n n) ∧ e 1 = .one (.sl b 0 n n) ∧ e 5 = vI .i64 (i : Nat) ∧ e 7 = vS key ∧ e 29 = .one (.sl a 0 n n) ∧ e 30 = vI .i64 n ∧ e 31 = vI .i64 (k : Nat) ∧ (k + k2 = n) ∧ (DH G a b (takeTo L i key k)) ∧ (H.length ≤ G.length)) := ⟨_, fun _ _ => Iff.rfl⟩
      refine wpL_ind J ?_ n _ ((hJ _ _).2 ⟨_, _, 0, (by first | rfl | (simp [e0, e1, e11, e12, e13]; done) | (simp [e0, e1, e11, e12, e13]; rfl) | (simp [e0, e1, e11, e12, e13]; and_intros <;> rfl)), by simp [e0], by simp [e1], by simp, by simp, by simp, by simp, by simp, by omega, by rw [takeTo_zero]; exact hG.app _, by rw [List.length_append]; omega⟩)
      clear e0 e1 e11 e12 e13 hAp hTp hRp hG hGl
      intro k2 stJ hstJ
      obtain ⟨e, G, k, rfl, e0, e1, e5, e7, e29, e30, e31, hk, hG, hGl⟩ := (hJ _ _).1 hstJ
      by_cases d : k < n
      · have d' : (k : Int) < n := by omega
        have hkL : k < L.length := by omega
        have hkM : k < (takeTo L i key k).length := by rw [takeTo_len]; exact hkL
        obtain ⟨y, hy⟩ : ∃ y, L[k] = y := ⟨_, rfl⟩
        have hym : y ∈ L := hy ▸ List.getElem_mem hkL
        have hMk : (takeTo L i key k)[k] = y := by rw [takeTo_get hkM hkL (Nat.le_refl _), hy]
        have hMi : (takeTo L i key k)[k]? = some y := by rw [List.getElem?_eq_getElem hkM, hMk]
        obtain ⟨ys, yl, yok⟩ := hok y.2 (List.mem_map.2 ⟨y, hym, rfl⟩)
        have hyt := hm y hym
        have hAp : ∀ T : Hp, (G ++ T)[a]? = some (.clo ((takeTo L i key k).map fun x => cRad x.2.1) false) := fun T => (hG.app T).rad
        have hTp : ∀ T : Hp, (G ++ T)[b]? = some (.opn (topT (takeTo L i key k)) false) := fun T => (hG.app T).top
        have hRp : ∀ T : Hp, (G ++ T)[y.1]? = some (.clo (y.2.2.map cStr) false) := fun T => by have := (hG.app T).row k hkM; rw [hMk] at this; exact this
        have htT : (topT (takeTo L i key k))[k]? = some [.sl y.1 0 y.2.2.length y.2.2.length] := by simp [topT, hMi]
        have hCt := contains_strs (v := key) (r := y.2.2) (by omega)
        have hHa := bloom_Has (seed := y.2.1.fs) (h := y.2.1.h) (bits := y.2.1.bits) (key := key) ys.2.2.1 ys.2.2.2 (by omega)
        have hRm := rd_Remove ys yl yok hk37
        have hst := fun T => (hG.app T).step hkM (by rw [takeTo_len, hn]) hMk hyt key (remR y.2.1 key)
        have hMl : (takeTo L i key k).length = n := by rw [takeTo_len, hn]
        have hskip : jHit i key k L[k].2 = false → DH G a b (takeTo L i key (k + 1)) := fun h => by rw [takeTo_skip hkL h]; exact hG
        have hhit : jHit i key k L[k].2 = true → (takeTo L i key k).set k (y.1, (remR y.2.1 key, y.2.2 ++ [key])) = takeTo L i key (k + 1) := fun h => by
          rw [takeTo_succ hkL, jtake, if_pos h, hy]
        have hyf := (rOk_facts yok).1
        rw [hyf, Bool.true_and] at hHa
        rw [hy] at hskip hhit
        obtain ⟨id2, R2, told2⟩ := y
        dsimp only at ys yl yok hyt hAp hTp hRp htT hCt hHa hRm hst hskip hhit
        unfold jHit at hskip hhit
        dsimp only at hskip hhit
        have w_k : IntKind.i64.wrap ((k : Int) + 1) = ((k + 1 : Nat) : Int) := by rw [w64_id (by omega) (by omega)]; omega
        simp only [cRad, cRws, cRw, cSs, cF] at hCt hHa hRm
        by_cases ki : k = i
        · have ki' : (k : Int) = i := by omega
          have hhit := hhit (by simp [ki])
          have kb : ((k : Int) == (i : Int)) = true := by simp [ki]
          have hbox := fun a b c d e => st_box (G := G) (R := R2) (c1 := .clo [] false) (c2 := .clo [] false) (a := a) (b := b) (c := c) (d := d) (e := e)
          simp only [cRad, cRws, cRw, List.map_cons, List.map_nil] at hbox
          obtain ⟨H2, H3, H4, s1, s2, ⟨s3, s4, g2b⟩, s5, s6, s7⟩ := hst [.opn [(cRad R2).map .c] false, .clo [] false, .clo [] false]
          have hlt1 := (List.getElem?_eq_some_iff.1 hG.top).1
          have hlt2 := (List.getElem?_eq_some_iff.1 (hRp [])).1
          rw [List.append_nil] at hlt2
          have hbx := s4 G.length (.opn [(cRad R2).map .c] false) (by omega) (by omega) (by simp)
          have e3 : (G ++ [Ent.opn [(cRad R2).map .c] false, .clo [] false, .clo [] false]).length = G.length + 3 := by simp
          rw [hhit] at s6
          rw [e3] at s1 s7
          rw [List.append_assoc] at s1
          simp only [cRad, cRws, cRw, List.map_cons, List.map_nil, List.cons_append, List.nil_append, remR] at s1 s3 s5 hbx
          simp -implicitDefEqProofs [e0, e1, e5, e7, e29, e30, e31, d', hG.rad, hTp, htT, hMi, hMl, topT_len, cRad, cRws, cRw, kb, vmove, isNil, cellsOf?, hbox, g2b, s2, s3, hbx, hRm, s5, vbuildSlice_eq es35 el9, fzParts, setAll, rchParts, rch, s1]
          refine ⟨d, ?_⟩
          exact ⟨(k2 - 1), by omega, (hJ _ _).2 ⟨_, H4, k + 1, (by first | rfl | (simp [e0, e1, e5, e7, e29, e30, w_k]; done) | (simp [e0, e1, e5, e7, e29, e30, w_k]; rfl) | (simp [e0, e1, e5, e7, e29, e30, w_k]; and_intros <;> rfl)), by simp [e0, w_k], by simp [e1, w_k], by simp [e5, w_k], by simp [e7, w_k], by simp [e29, w_k], by simp [e30, w_k], by simp [w_k], by omega, s6, by omega⟩⟩
        have ki' : ¬ (k : Int) = i := by omega
        cases hc : told2.any (sEq key) with
        | true =>
          rw [hc] at hCt
          have hskip := hskip (by simp [ki, hc])
          simp -implicitDefEqProofs [e1, e5, e7, e29, e30, e31, d', hG.rad, hTp, hRp, htT, hMi, hMl, topT_len, take_str, cRad, cRws, cRw, ki', hCt, vmove, isNil, vstore, cellsOf?, Ent.wrO, wr]
          refine ⟨d, ?_⟩
          exact ⟨(k2 - 1), by omega, (hJ _ _).2 ⟨_, _, k + 1, (by first | rfl | (simp [e0, e1, e5, e7, e29, e30, w_k]; done) | (simp [e0, e1, e5, e7, e29, e30, w_k]; rfl) | (simp [e0, e1, e5, e7, e29, e30, w_k]; and_intros <;> rfl)), by simp [e0, w_k], by simp [e1, w_k], by simp [e5, w_k], by simp [e7, w_k], by simp [e29, w_k], by simp [e30, w_k], by simp [w_k], by omega, hskip.app _, by rw [List.length_append]; omega⟩⟩
        | false =>
        rw [hc] at hCt
        cases hh : hasB R2.fs R2.h R2.bits key with
        | false =>
          rw [hh] at hHa
          have hskip := hskip (by simp [ki, hc, hh])
          simp -implicitDefEqProofs [e1, e5, e7, e29, e30, e31, d', hG.rad, hTp, hRp, htT, hMi, hMl, topT_len, take_str, cRad, cRws, cRw, ki', hCt, hHa, vmove, isNil, vstore, cellsOf?, Ent.wrO, wr]
          refine ⟨d, ?_⟩
          exact ⟨(k2 - 1), by omega, (hJ _ _).2 ⟨_, _, k + 1, (by first | rfl | (simp [e0, e1, e5, e7, e29, e30, w_k]; done) | (simp [e0, e1, e5, e7, e29, e30, w_k]; rfl) | (simp [e0, e1, e5, e7, e29, e30, w_k]; and_intros <;> rfl)), by simp [e0, w_k], by simp [e1, w_k], by simp [e5, w_k], by simp [e7, w_k], by simp [e29, w_k], by simp [e30, w_k], by simp [w_k], by omega, hskip.app _, by rw [List.length_append]; omega⟩⟩
        | true =>
          rw [hh] at hHa
          have hhit := hhit (by simp [hc, hh])
          have hbox := fun a b c d e => st_box (G := G) (R := R2) (c1 := .clo [] false) (c2 := .clo [] false) (a := a) (b := b) (c := c) (d := d) (e := e)
          simp only [cRad, cRws, cRw, List.map_cons, List.map_nil] at hbox
          obtain ⟨H2, H3, H4, s1, s2, ⟨s3, s4, g2b⟩, s5, s6, s7⟩ := hst [.opn [(cRad R2).map .c] false, .clo [] false, .clo [] false]
          have hlt1 := (List.getElem?_eq_some_iff.1 hG.top).1
          have hlt2 := (List.getElem?_eq_some_iff.1 (hRp [])).1
          rw [List.append_nil] at hlt2
          have hbx := s4 G.length (.opn [(cRad R2).map .c] false) (by omega) (by omega) (by simp)
          have e3 : (G ++ [Ent.opn [(cRad R2).map .c] false, .clo [] false, .clo [] false]).length = G.length + 3 := by simp
          rw [hhit] at s6
          rw [e3] at s1 s7
          rw [List.append_assoc] at s1
          simp only [cRad, cRws, cRw, List.map_cons, List.map_nil, List.cons_append, List.nil_append, remR] at s1 s3 s5 hbx
          simp -implicitDefEqProofs [e0, e1, e5, e7, e29, e30, e31, d', hG.rad, hTp, hRp, htT, hMi, hMl, topT_len, take_str, cRad, cRws, cRw, ki', hCt, hHa, vmove, isNil, cellsOf?, hbox, g2b, s2, s3, hbx, hRm, s5, vbuildSlice_eq es35 el9, fzParts, setAll, rchParts, rch, s1]
          refine ⟨d, ?_⟩
          exact ⟨(k2 - 1), by omega, (hJ _ _).2 ⟨_, H4, k + 1, (by first | rfl | (simp [e0, e1, e5, e7, e29, e30, w_k]; done) | (simp [e0, e1, e5, e7, e29, e30, w_k]; rfl) | (simp [e0, e1, e5, e7, e29, e30, w_k]; and_intros <;> rfl)), by simp [e0, w_k], by simp [e1, w_k], by simp [e5, w_k], by simp [e7, w_k], by simp [e29, w_k], by simp [e30, w_k], by simp [w_k], by omega, s6, by omega⟩⟩
      · have d' : ¬ (k : Int) < n := by omega
        have hR : RoundQ H a b L (vB true) G := ⟨by rw [jround, hfi]; rfl, hGl, _, hG, takeTo_len .., by rw [takeTo_all (by omega), jround, hfi]; rfl⟩
        simp -implicitDefEqProofs [e30, e31, d', vmove, isNil]
        exact hR
  · have c' : ¬ (i : Int) < n := by omega
    have hno' : jfind (L.map (·.2)) = none := jfind_eq_none fun j hj => by
      have hj' : j < L.length := by simpa using hj
      simp only [List.getElem_map]
      exact hno j hj' (by omega)
    simp -implicitDefEqProofs [e12, e13, c', vmove, isNil]
    exact ⟨by rw [jround, hno']; rfl, hGl, L, hG, rfl, by rw [jround, hno']; rfl⟩
end Go.Proofs.YtmgnmnogiajlgaaGreatF
end
