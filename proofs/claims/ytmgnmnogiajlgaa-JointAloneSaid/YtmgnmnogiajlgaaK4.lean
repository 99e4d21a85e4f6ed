/- Steps shared by the proofs of this seat's statements (part 4). -/
import Derived.Test.YtmgnmnogiajlgaaK3
import Derived.Test.YtmgnmnogiajlgaaK2
section
/- Solve: clear. -/
set_option maxRecDepth 8192
set_option maxHeartbeats 2000000
namespace Go.Proofs.YtmgnmnogiajlgaaF
open Go Go.Proofs.Vm Go.Proofs.Vm.Fld

abbrev PP : Int := 2305843009213693951
def redR (r : List Int) : List Int := r.map fun n => n % 2305843009213693951
theorem mk_row {nid n : Nat} (h : n ≤ 64) : vmakeSlice Try.prog true nid 112 (vI .i64 n) (vI .i64 n) = some (.one (.sl nid 0 n n), [rowE (List.replicate n 0)], []) := by
  rw [vmakeSlice_eq es112 el22, if_pos ⟨by omega, rfl, by simp [small]; omega, by omega⟩]
  simp [rowE, cU]
theorem st_row {H : Hp} {nest : Bool} {id j n : Nat} {r : List Int} {v : Int} (h : H[id]? = some (rowE r)) (hj : j < r.length) (hn : r.length = n) :
    vstore Try.prog nest H 22 (.one (.ptr ⟨id, j, 0, n⟩)) (.one (.c (.v (.int .u64 v)))) = some (H.set id (rowE (r.set j v))) := by
  subst hn
  have e : (List.map cU r).modify j (fun e => Vm.wr e 0 [CV.v (Value.int .u64 v)]) = List.map cU (r.set j v) := by
    rw [List.map_set]
    apply List.ext_getElem (by simp)
    intro i h1 h2
    rw [List.getElem_modify, List.getElem_set]
    by_cases c : j = i
    · subst c; simp [cU, wr]
    · rw [if_neg c, if_neg c]
  rw [rowE] at h
  have e2 : ¬ cU r[j] = [] := by simp [cU]
  simp [vstore, cellsOf?, h, hj, hasRef, Ent.wrC, rowE, e, e2]
/-- The heap of clear: the rows, and what has been put to the steps. -/
structure CH (H : Hp) (L : List (Nat × List Int)) (d : Nat) (a : List Nat) : Prop where
  mh : MH H L
  at' : H[d]? = some (.clo (a.map fun (n : Nat) => cInt (n : Int)) false)
  d2 : d ≠ 2
  dn : ∀ k (h : k < L.length), L[k].1 ≠ d
def rws (L : List (Nat × List Int)) : List (List Int) := L.map (·.2)
theorem rws_len (L : List (Nat × List Int)) : (rws L).length = L.length := by simp [rws]
theorem rws_row {L : List (Nat × List Int)} {k : Nat} (h : k < L.length) : row (rws L) k = L[k].2 := by
  rw [row_eq (by rw [rws_len]; exact h)]
  simp [rws]
theorem at0_get {r : List Int} {j : Nat} (h : j < r.length) : at0 r j = r[j] := by simp [at0, h]
theorem pvt_is {m : List (List Int)} {c k q : Nat} (h1 : k ≤ q) (h2 : q < m.length) (h3 : at0 (row m q) c ≠ 0) (h4 : ∀ j, k ≤ j → j < q → at0 (row m j) c = 0) : pvt m c k = some q := by
  unfold pvt
  rw [List.find?_range'_eq_some]
  refine ⟨by simpa using h3, by simp only [List.mem_range'_1]; omega, fun j hj hq => by simpa using h4 j hj hq⟩
theorem pvt_no {m : List (List Int)} {c k : Nat} (h : ∀ j, k ≤ j → j < m.length → at0 (row m j) c = 0) : pvt m c k = none := by
  unfold pvt
  rw [List.find?_eq_none]
  intro j hj
  simp only [List.mem_range'_1] at hj
  simpa using h j hj.1 (by omega)
theorem st_top {H : Hp} {k n : Nat} {l : List (List Cell)} {c c' : Cell} (h : H[2]? = some (.opn l false)) (hk : l[k]? = some [c']) (hn : l.length = n) :
    vstore Try.prog true H 112 (.one (.ptr ⟨2, k, 0, n⟩)) (.one c) = some (H.set 2 (.opn (l.set k [c]) false)) := by
  have hlt := (List.getElem?_eq_some_iff.1 hk).1
  have e : l.modify k (fun e => Vm.wr e 0 [c]) = l.set k [c] := by
    apply List.ext_getElem (by simp)
    intro i h1 h2
    rw [List.getElem_modify, List.getElem_set]
    by_cases q : k = i
    · subst q
      have : l[k] = [c'] := by rw [List.getElem?_eq_getElem hlt] at hk; exact Option.some.inj hk
      simp [this, wr]
    · rw [if_neg q, if_neg q]
  simp [vstore, cellsOf?, h, hn, hk, Ent.wrO, e]
/-- The rows k and p change places. -/
theorem CH.swp {H : Hp} {L : List (Nat × List Int)} {d k p n : Nat} {a : List Nat} (h : CH H L d a) (hk : k < L.length) (hp : p < L.length) (hn : L.length = n) : ∃ H1 H2 l1 c1, (H1[2]? = some (.opn l1 false) ∧ l1.length = n ∧ l1[p]? = some [c1]) ∧
    vstore Try.prog true H 112 (.one (.ptr ⟨2, k, 0, n⟩)) (.one (.sl L[p].1 0 L[p].2.length L[p].2.length)) = some H1 ∧
    vstore Try.prog true H1 112 (.one (.ptr ⟨2, p, 0, n⟩)) (.one (.sl L[k].1 0 L[k].2.length L[k].2.length)) = some H2 ∧ CH H2 (swpL L k p hk hp) d a := by
  have hT := h.mh.top' (by omega)
  have e1 := st_top (c := .sl L[p].1 0 L[p].2.length L[p].2.length) (k := k) (n := n) (c' := .sl L[k].1 0 L[k].2.length L[k].2.length) hT (by simp [hk, rowC]) (by simp [hn])
  obtain ⟨c', hc'⟩ : ∃ c', ((L.map rowC).set k [.sl L[p].1 0 L[p].2.length L[p].2.length])[p]? = some [c'] := by
    rw [List.getElem?_set]
    by_cases e : k = p
    · subst e; rw [if_pos rfl, if_pos (by simpa using hk)]; exact ⟨_, rfl⟩
    · rw [if_neg e]; exact ⟨.sl L[p].1 0 L[p].2.length L[p].2.length, by simp [hp, rowC]⟩
  have e2 := st_top (H := H.set 2 (.opn ((L.map rowC).set k [.sl L[p].1 0 L[p].2.length L[p].2.length]) false)) (c := .sl L[k].1 0 L[k].2.length L[k].2.length) (k := p) (n := n) (set_self hT) hc' (by simp [hn])
  refine ⟨_, _, _, c', ⟨set_self hT, by simp [hn], hc'⟩, e1, e2, ?_⟩
  have e3 : ((L.map rowC).set k [.sl L[p].1 0 L[p].2.length L[p].2.length]).set p [.sl L[k].1 0 L[k].2.length L[k].2.length] = (swpL L k p hk hp).map rowC := by
    rw [swpL, List.map_set, List.map_set]
    rfl
  rw [List.set_set, e3]
  refine ⟨h.mh.swp hk hp, ?_, h.d2, fun j hj => ?_⟩
  · rw [set_get h.d2]; exact h.at'
  · have hj' : j < L.length := by simpa [swpL] using hj
    rw [swpL_get hk hp j hj hj']
    split
    · exact h.dn k hk
    · split
      · exact h.dn p hp
      · exact h.dn j hj'
theorem CH.row {H : Hp} {L : List (Nat × List Int)} {d k : Nat} {a : List Nat} (h : CH H L d a) (hk : k < L.length) {r : List Int} (hr : r.length = L[k].2.length) : CH (H.set L[k].1 (rowE r)) (L.set k (L[k].1, r)) d a := by
  refine ⟨h.mh.row hk hr, ?_, h.d2, fun j hj => ?_⟩
  · rw [set_get (fun e => h.dn k hk e.symm)]; exact h.at'
  · rw [List.getElem_set]
    split
    · exact h.dn k hk
    · exact h.dn j (by simpa using hj)
theorem CH.push {H : Hp} {L : List (Nat × List Int)} {d : Nat} {a : List Nat} (h : CH H L d a) (ha : a.length ≤ 1000) (c : Nat) : ∃ H',
    vappendN Try.prog true (H ++ [.clo [[.v (.int .i64 c)]] false]) 105 105 (.one (.sl d 0 a.length a.length)) (.one (.sl H.length 0 1 1)) = some (.one (.sl d 0 (a.length + 1) (a.length + 1)), H') ∧ CH H' L d (a ++ [c]) := by
  have hd := (List.getElem?_eq_some_iff.1 h.at').1
  have hdH : (H ++ [.clo [[.v (.int .i64 c)]] false])[d]? = some (.clo (a.map fun (n : Nat) => cInt (n : Int)) false) := by rw [List.getElem?_append_left hd]; exact h.at'
  have e := vappend_eq (P := Try.prog) (H := H ++ [.clo [[.v (.int .i64 c)]] false]) (t := 105) (tx := 105) (id := d) (n := a.length) (l := a.map fun (n : Nat) => cInt (n : Int)) (xs := [[.v (.int .i64 c)]]) (x := .one (.sl H.length 0 1 1)) es105 es105 el3
    hdH (by simp [elemsOf]) (by simp) (by intro e he; obtain ⟨y, -, rfl⟩ := List.mem_map.1 he; rfl) (by simp) (by simp; omega) (by simp; omega)
  refine ⟨_, by rw [vappendN_clo (by simp [elemsO])]; exact e, ?_⟩
  refine ⟨(h.mh.app _).other h.d2 h.dn _, ?_, h.d2, h.dn⟩
  rw [set_self hdH, List.map_append]
  rfl
theorem mapO_al {α β : Type} {f : α → Option β} : ∀ {l : List α} {m : List β}, l.length = m.length → (∀ (j : Nat) x y, l[j]? = some x → m[j]? = some y → f x = some y) → mapO f l = some m
  | [], [], _, _ => rfl
  | [], _ :: _, h, _ => by simp at h
  | _ :: _, [], h, _ => by simp at h
  | x :: l, y :: m, h, g => by
    have h1 := g 0 x y rfl rfl
    have h2 := mapO_al (l := l) (m := m) (by simpa using h) fun j u v hu hv => g (j + 1) u v (by simpa using hu) (by simpa using hv)
    simp [mapO, h1, h2]
theorem fz_rws {h : Hp} {id n : Nat} {l : List (List Cell)} {out : List CV} (hid : h[id]? = some (.opn l false)) (hl : l.length = n) (ho : out.length = n) (hc : ∀ (j : Nat) x y, l[j]? = some x → out[j]? = some y → ∃ c, x = [c] ∧ fzc 4 h c = some y) : fzc 5 h (.sl id 0 n n) = some (.arr (out.map fun c => [c])) := by
  have hm : mapO (mapO (fzc 4 h)) l = some (out.map fun c => [c]) := by
    refine mapO_al (by simp [hl, ho]) fun j x y hx hy => ?_
    obtain ⟨z, hz, rfl⟩ := Option.map_eq_some_iff.1 (by rw [← List.getElem?_map]; exact hy)
    obtain ⟨c, rfl, hcc⟩ := hc j x z hx hz
    simp only [mapO, hcc]
  unfold fzc
  simp only [hid, hl, if_true, List.drop_zero]
  rw [List.take_of_length_le (by omega), hm]
  rfl
theorem CH.fz1 {H : Hp} {L : List (Nat × List Int)} {d n : Nat} {a : List Nat} (h : CH H L d a) (hn : L.length = n) (h0 : 0 < n) : fzc 5 H (.sl 2 0 n n) = some (cUm (rws L)) := by
  refine (fz_rws (out := (rws L).map cUr) (h.mh.top' (by omega)) (by simp [hn]) (by simp [rws_len, hn]) fun j x y hx hy => ?_).trans (by simp [cUm])
  have hj : j < L.length := by
    have := (List.getElem?_eq_some_iff.1 hx).1
    simpa using this
  have hr := h.mh.rows j hj
  simp only [rowE] at hr
  simp [hj, rowC] at hx
  simp [rws, hj] at hy
  subst hx hy
  exact ⟨_, rfl, by simp [fzc, hr, cUr]; rw [List.take_of_length_le (by simp)]⟩
theorem CH.fz2 {H : Hp} {L : List (Nat × List Int)} {d : Nat} {a : List Nat} (h : CH H L d a) : fzc 5 H (.sl d 0 a.length a.length) = some (.arr (a.map fun (n : Nat) => cInt (n : Int))) := by
  have := h.at'
  unfold fzc
  simp only [this, List.length_map, if_true, List.drop_zero]
  rw [List.take_of_length_le (by simp)]
/-- Of two rows the second one's first numbers, then the first one's. -/
def mixR (a b : List Int) (j : Nat) : List Int := a.mapIdx fun t n => if t < j then b.getD t 0 else n
theorem mixR_len (a b : List Int) (j : Nat) : (mixR a b j).length = a.length := by simp [mixR]
theorem mixR_zero (a b : List Int) : mixR a b 0 = a := by
  apply List.ext_getElem (by simp [mixR])
  intro i h1 h2
  simp [mixR]
theorem mixR_all {a b : List Int} (h : a.length = b.length) {j : Nat} (hj : a.length ≤ j) : mixR a b j = b := by
  apply List.ext_getElem (by simp [mixR, h])
  intro i h1 h2
  have : i < j := by omega
  simp [mixR, this, h2]
theorem mixR_get {a b : List Int} {j i : Nat} (hi : i < a.length) (hij : j ≤ i) : (mixR a b j)[i]? = some a[i] := by
  have : ¬ i < j := by omega
  simp [mixR, hi, this]
theorem mixR_set {a b : List Int} {j : Nat} (hj : j < a.length) (h : a.length = b.length) : (mixR a b j).set j (b[j]'(by omega)) = mixR a b (j + 1) := by
  apply List.ext_getElem (by simp [mixR])
  intro i h1 h2
  rw [List.getElem_set]
  simp only [mixR, List.getElem_mapIdx]
  by_cases c : j = i
  · subst c
    have hj' : j < b.length := by omega
    simp [hj']
  · rw [if_neg c]
    by_cases c2 : i < j
    · rw [if_pos c2, if_pos (by omega)]
    · rw [if_neg c2, if_neg (by omega)]
/-- The rows before the t-th one are cleared. -/
def clrL (b : List Int) (c k : Nat) (L : List (Nat × List Int)) (t : Nat) : List (Nat × List Int) := L.mapIdx fun i y => if i < t ∧ i ≠ k then (y.1, elm PP (at0 y.2 c) b y.2) else y
theorem clrL_len (b : List Int) (c k : Nat) (L : List (Nat × List Int)) (t : Nat) : (clrL b c k L t).length = L.length := by simp [clrL]
theorem clrL_get {b : List Int} {c k : Nat} {L : List (Nat × List Int)} {t i : Nat} (h : i < (clrL b c k L t).length) (h' : i < L.length) : (clrL b c k L t)[i] = if i < t ∧ i ≠ k then (L[i].1, elm PP (at0 L[i].2 c) b L[i].2) else L[i] := by simp [clrL]
theorem clrL_zero (b : List Int) (c k : Nat) (L : List (Nat × List Int)) : clrL b c k L 0 = L := by
  apply List.ext_getElem (by simp [clrL])
  intro i h1 h2
  rw [clrL_get h1 h2, if_neg (by omega)]
theorem clrL_k (b : List Int) (c k : Nat) (L : List (Nat × List Int)) : clrL b c k L (k + 1) = clrL b c k L k := by
  apply List.ext_getElem (by simp [clrL])
  intro i h1 h2
  have h3 : i < L.length := by rw [clrL_len] at h1; exact h1
  rw [clrL_get h1 h3, clrL_get h2 h3]
  by_cases e : i < k
  · rw [if_pos ⟨by omega, by omega⟩, if_pos ⟨e, by omega⟩]
  · rw [if_neg (by omega), if_neg (by omega)]
theorem clrL_succ {b : List Int} {c k : Nat} {L : List (Nat × List Int)} {t : Nat} (hk : t ≠ k) (ht : t < L.length) : clrL b c k L (t + 1) = (clrL b c k L t).set t (L[t].1, elm PP (at0 L[t].2 c) b L[t].2) := by
  apply List.ext_getElem (by simp [clrL])
  intro i h1 h2
  have h3 : i < L.length := by rw [clrL_len] at h1; exact h1
  rw [clrL_get h1 h3, List.getElem_set]
  by_cases e : t = i
  · subst e; rw [if_pos ⟨by omega, hk⟩, if_pos rfl]
  · rw [if_neg e, clrL_get _ h3]
    by_cases e2 : i < t ∧ i ≠ k
    · rw [if_pos e2, if_pos ⟨by omega, e2.2⟩]
    · rw [if_neg e2, if_neg (by omega)]
theorem clrL_rws {b : List Int} {c k : Nat} {L : List (Nat × List Int)} {m : List (List Int)} (h : rws L = m.set k b) {t : Nat} (ht : L.length ≤ t) : rws (clrL b c k L t) = elims PP b m k c := by
  unfold elims
  rw [← h]
  apply List.ext_getElem (by simp [rws, clrL])
  intro i h1 h2
  have h3 : i < L.length := by rw [rws_len, clrL_len] at h1; exact h1
  simp only [rws, List.getElem_map, List.getElem_mapIdx]
  rw [clrL_get _ h3]
  by_cases e : i = k
  · rw [if_neg (by omega), if_pos e]
  · rw [if_pos ⟨by omega, e⟩, if_neg e]
theorem elm_zero {b y : List Int} (hl : y.length = b.length) (hy : ∀ t (h : t < y.length), 0 ≤ y[t] ∧ y[t] < 2305843009213693951) : elm PP 0 b y = y := by
  apply List.ext_getElem (by simp [elm, hl])
  intro i h1 h2
  simp only [elm, List.getElem_zipWith, Int.zero_mul, Int.zero_emod, Int.sub_zero]
  exact Int.emod_eq_of_lt (hy i h2).1 (hy i h2).2
theorem sv_clear {m : List (List Int)} {cols w : Nat} (h0 : m ≠ []) (hw : ∀ r ∈ m, r.length = w) (hn : ∀ r ∈ m, ∀ n ∈ r, 0 ≤ n ∧ n < 18446744073709551616) (hl : m.length ≤ 64) (hwl : w ≤ 64) (hc : cols ≤ w) :
    TV.pu 70 [.one (cUm m), cI .i64 cols] = some (.tup [(false, [cUm (clrTo PP invF (m.map redR) cols).1]), (false, [.arr ((clrTo PP invF (m.map redR) cols).2.map fun (n : Nat) => cInt (n : Int))])]) := by
  refine run70 (by simp) ?_
  simp [Try.f70, cUm, cUr]
  obtain ⟨I, hI⟩ : ∃ I : Nat → St → Prop, ∀ k s', I k s' ↔ (∃ e H L i, s' = ⟨e, H⟩ ∧ e 0 = .one (.c (cUm m)) ∧ e 1 = vI .i64 cols ∧ e 6 = .one (.sl 2 0 i i) ∧ e 22 = .one (.c (cUm m)) ∧ e 23 = vI .i64 m.length ∧ e 24 = vI .i64 (i : Nat) ∧ (MH H L) ∧ (i + k = m.length) ∧ (L.map (·.2) = (m.take i).map redR)) := ⟨_, fun _ _ => Iff.rfl⟩
  refine wpL_ind I ?_ m.length _ ((hI _ _).2 ⟨_, [.clo [] false, .clo [] false, .clo [] false], [], 0, (by first | rfl | (simp [cUm, cUr]; done) | (simp [cUm, cUr]; rfl) | (simp [cUm, cUr]; and_intros <;> rfl)), by simp [cUm, cUr], by simp, by simp, by simp [cUm, cUr], by simp, by simp, ⟨rfl, by simp, by simp⟩, by omega, by simp⟩)
  intro k stI hstI
  obtain ⟨e, H, L, i, rfl, e0, e1, e6, e22, e23, e24, hH, hi, hL⟩ := (hI _ _).1 hstI
  by_cases c : i < m.length
  · have hx : m[i]? = some m[i] := List.getElem?_eq_getElem c
    obtain ⟨r, hr⟩ : ∃ r, m[i] = r := ⟨_, rfl⟩
    have hmem : r ∈ m := hr ▸ List.getElem_mem c
    have hrw := hw r hmem
    have hrn := hn r hmem
    rw [hr] at hx
    have hms := fun nid => mk_row (nid := nid) (n := r.length) (by omega)
    simp [e22, e23, e24, cUm, cUr, c, hr, hms]
    obtain ⟨J, hJ⟩ : ∃ J : Nat → St → Prop, ∀ q s', J q s' ↔ (∃ e j, s' = ⟨e, H ++ [rowE (mixR (List.replicate r.length 0) (redR r) j)]⟩ ∧ e 0 = .one (.c (cUm m)) ∧ e 1 = vI .i64 cols ∧ e 6 = .one (.sl 2 0 i i) ∧ e 9 = .one (.sl H.length 0 r.length r.length) ∧ e 22 = .one (.c (cUm m)) ∧ e 23 = vI .i64 m.length ∧ e 24 = vI .i64 (i : Nat) ∧ e 31 = .one (.c (cUr r)) ∧ e 32 = vI .i64 r.length ∧ e 33 = vI .i64 (j : Nat) ∧ (j + q = r.length)) := ⟨_, fun _ _ => Iff.rfl⟩
    refine wpL_ind J ?_ r.length _ ((hJ _ _).2 ⟨_, 0, (by first | rfl | (simp [rowE, mixR_zero, cU]; done) | (simp [rowE, mixR_zero, cU]; rfl) | (simp [e0, e1, e6, e22, e23, e24, cUm, cUr, rowE, mixR_zero, cU]; and_intros <;> rfl)), by simp [e0, cUm, cUr], by simp [e1], by simp [e6], by simp, by simp [e22, cUm, cUr], by simp [e23], by simp [e24], by simp [cUr], by simp, by simp, by omega⟩)
    clear e0 e1 e6 e22 e23 e24
    intro q stJ hstJ
    obtain ⟨e, j, rfl, e0, e1, e6, e9, e22, e23, e24, e31, e32, e33, hj⟩ := (hJ _ _).1 hstJ
    by_cases cj : j < r.length
    · have hxj : r[j]? = some r[j] := List.getElem?_eq_getElem cj
      have hO := field_Of (hrn _ (List.getElem_mem cj)).1 (hrn _ (List.getElem_mem cj)).2
      have w_j : IntKind.i64.wrap ((j : Int) + 1) = ((j + 1 : Nat) : Int) := by rw [w64_id (by omega) (by omega)]; omega
      have hst := st_row (H := H ++ [rowE (mixR (List.replicate r.length 0) (redR r) j)]) (nest := true) (id := H.length) (j := j) (n := r.length) (v := r[j] % 2305843009213693951) (r := mixR (List.replicate r.length 0) (redR r) j) (by simp) (by simpa [mixR_len] using cj) (by simp [mixR_len])
      have hset : (mixR (List.replicate r.length 0) (redR r) j).set j (r[j] % 2305843009213693951) = mixR (List.replicate r.length 0) (redR r) (j + 1) := by
        rw [← mixR_set (by simpa using cj) (by simp [redR])]
        simp [redR]
      rw [hset] at hst
      simp only [rowE] at hst
      have hlm : (mixR (List.replicate r.length 0) (redR r) j).length = r.length := by simp [mixR_len]
      simp [e6, e9, e31, e32, e33, cUr, rowE, cj, hO, hlm, cU, hst]
      exact ⟨(q - 1), by omega, (hJ _ _).2 ⟨_, j + 1, (by first | rfl | (simp [e0, e1, e6, e9, e22, e23, e24, e31, e32, cUm, cUr, rowE, w_j]; done) | (simp [e0, e1, e6, e9, e22, e23, e24, e31, e32, cUm, cUr, rowE, w_j]; rfl) | (simp [e0, e1, e6, e9, e22, e23, e24, e31, e32, cUm, cUr, rowE, w_j]; and_intros <;> rfl)), by simp [e0, cUm, cUr, w_j], by simp [e1, w_j], by simp [e6, w_j], by simp [e9, w_j], by simp [e22, cUm, cUr, w_j], by simp [e23, w_j], by simp [e24, w_j], by simp [e31, cUr, w_j], by simp [e32, w_j], by simp [w_j], by omega⟩⟩
    · have hLl : L.length = i := by
        have := congrArg List.length hL
        simpa [Nat.min_eq_left (Nat.le_of_lt c)] using this
      have hmx : mixR (List.replicate r.length 0) (redR r) j = redR r := mixR_all (by simp [redR]) (by simp; omega)
      have hrl : (redR r).length = r.length := by simp [redR]
      have ha := vappendO_own (P := Try.prog) (H := H ++ [rowE (redR r), .opn [[.sl H.length 0 r.length r.length]] false]) (t := 111) (id := 2) (n := i) (k := H.length + 1) (c := .sl H.length 0 r.length r.length) (l := L.map rowC) es111 el112
        (hH.app _).opn (by simp) (by simpa using hLl) (by intro e he; obtain ⟨y, -, rfl⟩ := List.mem_map.1 he; rfl) (by omega) (by omega)
      have cj' : ¬ (j : Int) < r.length := by omega
      have w_i : IntKind.i64.wrap ((i : Int) + 1) = ((i + 1 : Nat) : Int) := by rw [w64_id (by omega) (by omega)]; omega
      simp only [rowE] at ha
      simp [e6, e9, e24, e31, e32, e33, cUr, rowE, cj', hmx, vbuildO_m es111 el112, cellsOf?, ha]
      have hM := (hH.app [rowE (redR r), .opn [[.sl H.length 0 r.length r.length]] false]).push (id := H.length) (r := redR r) (by have := hH.lt2; omega) (fun k hk => by have := hH.lt hk; omega) (by simp)
      rw [hrl] at hM
      have hL2 : (L ++ [(H.length, redR r)]).map (·.2) = (m.take (i + 1)).map redR := by
        rw [List.map_append, hL, List.take_add_one, hx, List.map_append]
        rfl
      exact ⟨(k - 1), by omega, (hI _ _).2 ⟨_, _, L ++ [(H.length, redR r)], i + 1, (by first | rfl | (simp [e0, e1, e22, e23, w_i]; done) | (simp [e0, e1, e22, e23, w_i]; rfl) | (simp [e0, e1, e22, e23, w_i]; and_intros <;> rfl)), by simp [e0, w_i], by simp [e1, w_i], by simp [w_i], by simp [e22, w_i], by simp [e23, w_i], by simp [w_i], hM, by omega, hL2⟩⟩
  · have him : i = m.length := by omega
    subst him
    have hLl : L.length = m.length := by
      have := congrArg List.length hL
      simpa using this
    rw [List.take_length] at hL
    obtain ⟨M, hMd⟩ : ∃ M, m.map redR = M := ⟨_, rfl⟩
    rw [hMd] at hL ⊢
    have hm0 : 0 < m.length := List.length_pos_iff.2 h0
    have hMw : ∀ r ∈ M, r.length = w := by
      subst hMd
      intro r hr
      obtain ⟨x, hx, rfl⟩ := List.mem_map.1 hr
      simp [redR, hw x hx]
    have hMr : ∀ r, r < M.length → ∀ j, 0 ≤ at0 (row M r) j ∧ at0 (row M r) j < PP := by
      subst hMd
      intro r hr j
      have hr' : r < m.length := by simpa using hr
      rw [row_eq hr]
      simp only [List.getElem_map, redR, at0, List.getD_eq_getElem?_getD, List.getElem?_map]
      cases (m[r])[j]? with
      | none => simp [PP]
      | some v => simp only [Option.map_some, Option.getD_some]; exact ⟨by omega, by show _ < (2305843009213693951 : Int); omega⟩
    simp [e22, e23, e24, cUm, cUr]
    obtain ⟨O, hO⟩ : ∃ O : Nat → St → Prop, ∀ k s', O k s' ↔ (∃ e H L d a c, s' = ⟨e, H⟩ ∧ e 1 = vI .i64 cols ∧ e 6 = .one (.sl 2 0 m.length m.length) ∧ e 12 = .one (.sl d 0 a.length a.length) ∧ e 13 = vI .i64 (c : Nat) ∧ (CH H L d a) ∧ (c + k = cols) ∧ (L.length = m.length) ∧ (clrTo PP invF M c = (rws L, a))) := ⟨_, fun _ _ => Iff.rfl⟩
    refine wpL_ind O ?_ cols _ ((hO _ _).2 ⟨_, _, L, H.length, [], 0, (by first | rfl | (simp [e1, e6]; done) | (simp [e1, e6]; rfl) | (simp [e1, e6]; and_intros <;> rfl)), by simp [e1], by simp [e6], by simp, by simp, ⟨hH.app _, by simp, by have := hH.lt2; omega, fun k hk => by have := hH.lt hk; omega⟩, by omega, hLl, by rw [← hL]; rfl⟩)
    intro k stO hstO
    obtain ⟨e, H, L, d, a, c, rfl, e1, e6, e12, e13, hH, hc1, hLl, hst⟩ := (hO _ _).1 hstO
    have hE : Ech PP (rws L) w c a := by
      have := (clr_inv (p := PP) inv_ok hMw hMr c).1
      rwa [hst] at this
    have hcw : ∀ k (h : k < L.length), L[k].2.length = w := fun k h => hE.len _ (by rw [← rws_row h]; exact row_mem (by rw [rws_len]; exact h))
    have hale : a.length ≤ m.length := by have := hE.le; rw [rws_len] at this; omega
    have hTop := hH.mh.top' (by omega)
    have hAt := hH.at'
    by_cases hcc : c < cols
    · by_cases hak : a.length < m.length
      · have hcc' : (c : Int) < cols := by omega
        have hak' : (a.length : Int) < m.length := by omega
        simp [e1, e6, e12, e13, hcc, hak, hTop, hAt, hLl]
        obtain ⟨P, hP⟩ : ∃ P : Nat → St → Prop, ∀ q s', P q s' ↔ (∃ e p, s' = ⟨e, H⟩ ∧ e 1 = vI .i64 cols ∧ e 6 = .one (.sl 2 0 m.length m.length) ∧ e 12 = .one (.sl d 0 a.length a.length) ∧ e 13 = vI .i64 (c : Nat) ∧ e 14 = vI .i64 a.length ∧ e 15 = vI .i64 (p : Nat) ∧ (p + q = m.length) ∧ (a.length ≤ p) ∧ (∀ j, a.length ≤ j → j < p → at0 (row (rws L) j) c = 0)) := ⟨_, fun _ _ => Iff.rfl⟩
        refine wpL_ind P ?_ (m.length - a.length) _ ((hP _ _).2 ⟨_, a.length, (by first | rfl | (simp [e1, e6, e12, e13, lenIs, hTop, hAt, hLl]; done) | (simp [e1, e6, e12, e13, lenIs, hTop, hAt, hLl]; rfl) | (simp [e1, e6, e12, e13, lenIs, hTop, hAt, hLl]; and_intros <;> rfl)), by simp [e1], by simp [e6], by simp [e12], by simp [e13], by simp, by simp, by omega, by omega, fun j h1 h2 => by omega⟩)
        clear e1 e6 e12 e13
        intro q stP hstP
        obtain ⟨e, p, rfl, e1, e6, e12, e13, e14, e15, hp1, hp2, hp3⟩ := (hP _ _).1 hstP
        by_cases cp : p < m.length
        · have hpL : p < L.length := by omega
          have hrp := hH.mh.rows p hpL
          have hwp := hcw p hpL
          have hLp : L[p]? = some L[p] := List.getElem?_eq_getElem hpL
          have hrr := rws_row hpL
          obtain ⟨x, hx⟩ : ∃ x, L[p] = x := ⟨_, rfl⟩
          rw [hx] at hrp hwp hLp hrr
          simp only [rowE] at hrp
          have hcx : c < x.2.length := by omega
          have hv : at0 (row (rws L) p) c = x.2[c] := by rw [hrr, at0_get hcx]
          have hxc : x.2[c]? = some x.2[c] := List.getElem?_eq_getElem hcx
          have cp' : (p : Int) < m.length := by omega
          by_cases hz : x.2[c] = 0
          · have w_p : IntKind.i64.wrap ((p : Int) + 1) = ((p + 1 : Nat) : Int) := by rw [w64_id (by omega) (by omega)]; omega
            simp [e6, e13, e14, e15, cp', hTop, hLl, hLp, rowC, hrp, hxc, hz, cU]
            refine ⟨cp, hcx, ?_⟩
            refine ⟨(q - 1), by omega, (hP _ _).2 ⟨_, p + 1, (by first | rfl | (simp [e1, e6, e12, e13, e14, w_p]; done) | (simp [e1, e6, e12, e13, e14, w_p]; rfl) | (simp [e1, e6, e12, e13, e14, w_p]; and_intros <;> rfl)), by simp [e1, w_p], by simp [e6, w_p], by simp [e12, w_p], by simp [e13, w_p], by simp [e14, w_p], by simp [w_p], by omega, by omega, ?_⟩⟩
            intro j h1 h2
            by_cases ej : j = p
            · rw [ej, hv, hz]
            · exact hp3 j h1 (by omega)
          · have cpe : ¬ (p : Int) = m.length := by omega
            have hpv : pvt (rws L) c a.length = some p := pvt_is hp2 (by rw [rws_len]; omega) (by rw [hv]; exact hz) hp3
            simp [e6, e13, e14, e15, cp', hTop, hLl, hLp, rowC, hrp, hxc, hz, cU, cpe]
            refine ⟨cp, hcx, ?_⟩
            have hkL : a.length < L.length := by omega
            obtain ⟨H1, H2, l1, c1, ⟨hq1, hq2, hq3⟩, hs1, hs2, hH2⟩ := hH.swp hkL hpL hLl
            have hLk : L[a.length]? = some L[a.length] := List.getElem?_eq_getElem hkL
            have hg2 : ∀ j (h : j < (swpL L a.length p hkL hpL).length) (h' : j < L.length), (swpL L a.length p hkL hpL)[j] = if p = j then L[a.length] else if a.length = j then L[p] else L[j] := fun j h h' => swpL_get hkL hpL j h h'
            have hl2 : (swpL L a.length p hkL hpL).length = L.length := by simp [swpL]
            have hw2 : rws (swpL L a.length p hkL hpL) = swp (rws L) a.length p := by
              have := rws_row hkL
              have := rws_row hpL
              simp only [swpL, rws, swp, List.map_set, rws] at *
              simp [*]
            obtain ⟨L2, hL2⟩ : ∃ L2, swpL L a.length p hkL hpL = L2 := ⟨_, rfl⟩
            obtain ⟨y, hy⟩ : ∃ y, L[a.length] = y := ⟨_, rfl⟩
            rw [hL2] at hH2 hw2
            simp only [hL2] at hg2 hl2
            rw [hy] at hs2 hLk
            rw [hx] at hs1
            have hkL2 : a.length < L2.length := by omega
            have hL2k : L2[a.length] = x := by
              rw [hg2 a.length hkL2 hkL, hx]
              by_cases e : p = a.length
              · rw [if_pos e, ← hx]; simp only [e]
              · rw [if_neg e, if_pos rfl]
            have hT2 := hH2.mh.top' (by omega)
            have hr2 := hH2.mh.rows a.length hkL2
            have hLk2 : L2[a.length]? = some x := by rw [List.getElem?_eq_getElem hkL2, hL2k]
            rw [hL2k] at hr2
            simp only [rowE] at hr2
            have hrd := hE.red p (by rw [rws_len]; omega) c
            rw [hv] at hrd
            have hInv := field_Inv hrd.1 hrd.2 hz
            obtain ⟨v, hvv⟩ : ∃ v, invF x.2[c] = v := ⟨_, rfl⟩
            rw [hvv] at hInv
            have hl2' : L2.length = m.length := by omega
            simp [e6, e13, e14, hLk, hTop, hLl, rowC, hs1, hs2, hT2, hLk2, hr2, hl2', hxc, cU, hInv, hq1, hq2, hq3]
            refine ⟨cp, hak, cp, hak, hcx, hak, ?_⟩
            have hvb : 0 ≤ v ∧ v < 2305843009213693951 := by
              rw [← hvv]
              exact ⟨Int.emod_nonneg _ (by decide), Int.emod_lt_of_pos _ (by decide)⟩
            have hxb : ∀ t (h : t < x.2.length), 0 ≤ x.2[t] ∧ x.2[t] < 2305843009213693951 := fun t h => by
              have := hE.red p (by rw [rws_len]; omega) t
              rw [hrr, at0_get h] at this
              exact this
            have hxl : x.2.length ≤ 64 := by omega
            obtain ⟨S, hS⟩ : ∃ S : Nat → St → Prop, ∀ q s', S q s' ↔ (∃ e H3 L3 i, s' = ⟨e, H3⟩ ∧ e 1 = vI .i64 cols ∧ e 6 = .one (.sl 2 0 m.length m.length) ∧ e 12 = .one (.sl d 0 a.length a.length) ∧ e 13 = vI .i64 (c : Nat) ∧ e 14 = vI .i64 a.length ∧ e 16 = vI .u64 v ∧ e 113 = vI .i64 x.2.length ∧ e 114 = vI .i64 (i : Nat) ∧ (CH H3 L3 d a) ∧ (L3 = L2.set a.length (x.1, mixR x.2 (scl PP v x.2) i)) ∧ (i + q = x.2.length)) := ⟨_, fun _ _ => Iff.rfl⟩
            refine wpL_ind S ?_ x.2.length _ ((hS _ _).2 ⟨_, H2, L2, 0, (by first | rfl | (simp [e1, e6, e12, e13, e14]; done) | (simp [e1, e6, e12, e13, e14]; rfl) | (simp [e1, e6, e12, e13, e14]; and_intros <;> rfl)), by simp [e1], by simp [e6], by simp [e12], by simp [e13], by simp [e14], by simp, by simp, by simp, hH2, by rw [mixR_zero, ← hL2k]; exact (List.set_getElem_self hkL2).symm, by omega⟩)
            clear e1 e6 e12 e13 e14 e15
            intro q stS hstS
            obtain ⟨e, H3, L3, i, rfl, e1, e6, e12, e13, e14, e16, e113, e114, hH3, hL3, si⟩ := (hS _ _).1 hstS
            have hkL3 : a.length < L3.length := by rw [hL3, List.length_set]; exact hkL2
            have hL3k : L3[a.length] = (x.1, mixR x.2 (scl PP v x.2) i) := by
              subst hL3
              simp
            have hT3 := hH3.mh.top' (by omega)
            have hl3 : L3.length = m.length := by rw [hL3, List.length_set]; exact hl2'
            have hLk3 : L3[a.length]? = some (x.1, mixR x.2 (scl PP v x.2) i) := by rw [List.getElem?_eq_getElem hkL3, hL3k]
            have hr3 := hH3.mh.rows a.length hkL3
            rw [hL3k] at hr3
            by_cases ci : i < x.2.length
            · have ci' : (i : Int) < x.2.length := by omega
              have hxi : (mixR x.2 (scl PP v x.2) i)[i]? = some x.2[i] := mixR_get ci (Nat.le_refl _)
              have hMu := field_Mul (hxb i ci).1 (by have := (hxb i ci).2; omega) hvb.1 (by omega)
              have hsl : (scl PP v x.2).length = x.2.length := scl_len ..
              have hs3 := st_row (nest := true) (j := i) (n := x.2.length) (v := x.2[i] * v % 2305843009213693951) hr3 (by rw [mixR_len]; exact ci) (mixR_len ..)
              have hset : (mixR x.2 (scl PP v x.2) i).set i (x.2[i] * v % 2305843009213693951) = mixR x.2 (scl PP v x.2) (i + 1) := by
                rw [← mixR_set ci hsl.symm]
                simp [scl]
              rw [hset] at hs3
              have hN := hH3.row hkL3 (r := mixR x.2 (scl PP v x.2) (i + 1)) (by rw [hL3k]; simp [mixR_len])
              rw [hL3k] at hN
              have hN2 : L3.set a.length (x.1, mixR x.2 (scl PP v x.2) (i + 1)) = L2.set a.length (x.1, mixR x.2 (scl PP v x.2) (i + 1)) := by rw [hL3, List.set_set]
              obtain ⟨H4, hH4⟩ : ∃ H4, H3.set x.1 (rowE (mixR x.2 (scl PP v x.2) (i + 1))) = H4 := ⟨_, rfl⟩
              rw [hH4] at hN hs3
              simp only [rowE] at hr3
              have hml : (mixR x.2 (scl PP v x.2) i).length = x.2.length := mixR_len ..
              have w_i : IntKind.i64.wrap ((i : Int) + 1) = ((i + 1 : Nat) : Int) := by rw [w64_id (by omega) (by omega)]; omega
              simp [e6, e14, e16, e113, e114, ci', hT3, hLk3, hl3, hr3, rowC, hxi, hml, hMu, hs3, cU]
              refine ⟨hak, ci, ?_⟩
              exact ⟨(q - 1), by omega, (hS _ _).2 ⟨_, H4, _, i + 1, (by first | rfl | (simp [e1, e6, e12, e13, e14, e16, e113, w_i]; done) | (simp [e1, e6, e12, e13, e14, e16, e113, w_i]; rfl) | (simp [e1, e6, e12, e13, e14, e16, e113, w_i]; and_intros <;> rfl)), by simp [e1, w_i], by simp [e6, w_i], by simp [e12, w_i], by simp [e13, w_i], by simp [e14, w_i], by simp [e16, w_i], by simp [e113, w_i], by simp [w_i], hN, hN2, by omega⟩⟩
            · have ci' : ¬ (i : Int) < x.2.length := by omega
              obtain ⟨b, hb⟩ : ∃ b, scl PP v x.2 = b := ⟨_, rfl⟩
              have hbl : b.length = x.2.length := by rw [← hb]; exact scl_len ..
              rw [hb, mixR_all hbl.symm (by omega)] at hL3 hL3k hLk3 hr3
              have hrw3 : rws L3 = (swp (rws L) a.length p).set a.length b := by
                rw [hL3, ← hw2]
                simp [rws, List.map_set]
              have hbb : ∀ t (h : t < b.length), 0 ≤ b[t] ∧ b[t] < 2305843009213693951 := fun t h => by
                subst hb
                simp only [scl, List.getElem_map]
                exact ⟨Int.emod_nonneg _ (by decide), Int.emod_lt_of_pos _ (by decide)⟩
              simp [e6, e14, e113, e114, ci', hT3, hl3]
              obtain ⟨RR, hRR⟩ : ∃ RR : Nat → St → Prop, ∀ q s', RR q s' ↔ (∃ e H4 L4 t, s' = ⟨e, H4⟩ ∧ e 1 = vI .i64 cols ∧ e 6 = .one (.sl 2 0 m.length m.length) ∧ e 12 = .one (.sl d 0 a.length a.length) ∧ e 13 = vI .i64 (c : Nat) ∧ e 14 = vI .i64 a.length ∧ e 134 = vI .i64 m.length ∧ e 135 = vI .i64 (t : Nat) ∧ (CH H4 L4 d a) ∧ (L4 = clrL b c a.length L3 t) ∧ (t + q = m.length)) := ⟨_, fun _ _ => Iff.rfl⟩
              refine wpL_ind RR ?_ m.length _ ((hRR _ _).2 ⟨_, H3, L3, 0, (by first | rfl | (simp [e1, e6, e12, e13, e14]; done) | (simp [e1, e6, e12, e13, e14]; rfl) | (simp [e1, e6, e12, e13, e14]; and_intros <;> rfl)), by simp [e1], by simp [e6], by simp [e12], by simp [e13], by simp [e14], by simp, by simp, hH3, (clrL_zero ..).symm, by omega⟩)
              clear e1 e6 e12 e13 e14 e16 e113 e114
              intro q stRR hstRR
              obtain ⟨e, H4, L4, t, rfl, e1, e6, e12, e13, e14, e134, e135, hH4, hL4, st⟩ := (hRR _ _).1 hstRR
              have hl4 : L4.length = m.length := by rw [hL4, clrL_len]; exact hl3
              have hT4 := hH4.mh.top' (by omega)
              have hkL4 : a.length < L4.length := by omega
              have hL4k : L4[a.length] = (x.1, b) := by
                subst hL4
                rw [clrL_get hkL4 hkL3, if_neg (by omega), hL3k]
              have hLk4 : L4[a.length]? = some (x.1, b) := by rw [List.getElem?_eq_getElem hkL4, hL4k]
              have hrk4 := hH4.mh.rows a.length hkL4
              rw [hL4k] at hrk4
              by_cases ct : t < m.length
              · have ct' : (t : Int) < m.length := by omega
                have htL3 : t < L3.length := by omega
                have w_t : IntKind.i64.wrap ((t : Int) + 1) = ((t + 1 : Nat) : Int) := by rw [w64_id (by omega) (by omega)]; omega
                by_cases ek : t = a.length
                · subst ek
                  simp [e6, e12, e13, e14, e134, e135, ct']
                  exact ⟨(q - 1), by omega, (hRR _ _).2 ⟨_, H4, L4, a.length + 1, (by first | rfl | (simp [e1, e6, e12, e13, e14, e134, w_t]; done) | (simp [e1, e6, e12, e13, e14, e134, w_t]; rfl) | (simp [e1, e6, e12, e13, e14, e134, w_t]; and_intros <;> rfl)), by simp [e1, w_t], by simp [e6, w_t], by simp [e12, w_t], by simp [e13, w_t], by simp [e14, w_t], by simp [e134, w_t], by simp [w_t], hH4, by rw [hL4, clrL_k], by omega⟩⟩
                · have ek' : ¬ (t : Int) = a.length := by omega
                  have htL4 : t < L4.length := by omega
                  have hL4t : L4[t] = L3[t] := by
                    subst hL4
                    rw [clrL_get htL4 htL3, if_neg (by omega)]
                  obtain ⟨y, hy⟩ : ∃ y, L3[t] = y := ⟨_, rfl⟩
                  rw [hy] at hL4t
                  have hLt4 : L4[t]? = some y := by rw [List.getElem?_eq_getElem htL4, hL4t]
                  have hrt4 := hH4.mh.rows t htL4
                  rw [hL4t] at hrt4
                  have hyk : y.1 ≠ x.1 := fun e => ek (hH4.mh.inj htL4 hkL4 (by rw [hL4t, hL4k]; exact e))
                  have hcs := clrL_succ (b := b) (c := c) (L := L3) ek htL3
                  rw [← hL4, hy] at hcs
                  have hyr := rws_row htL3
                  rw [hy] at hyr
                  have hyo : ∃ z, z < (rws L).length ∧ y.2 = row (rws L) z := by
                    rw [← hyr, hrw3]
                    have h1 : t < (swp (rws L) a.length p).length := by rw [swp_len, rws_len]; omega
                    have h2 : row ((swp (rws L) a.length p).set a.length b) t = row (swp (rws L) a.length p) t := by
                      rw [row_eq (by simpa using h1), row_eq h1, List.getElem_set_ne (fun e => ek e.symm)]
                    have h3 : row (swp (rws L) a.length p) t ∈ rws L := (swp_mem (by rw [rws_len]; omega) (by rw [rws_len]; omega) _).1 (row_mem h1)
                    obtain ⟨z, hz1, hz2⟩ := mem_row h3
                    exact ⟨z, hz1, by rw [h2, hz2]⟩
                  obtain ⟨z, hz1, hz2⟩ := hyo
                  have hyl : y.2.length = x.2.length := by
                    rw [hz2, hE.len _ (row_mem hz1), hwp]
                  have hyb : ∀ t (h : t < y.2.length), 0 ≤ y.2[t] ∧ y.2[t] < 2305843009213693951 := fun t h => by
                    have := hE.red z hz1 t
                    rw [← hz2, at0_get h] at this
                    exact this
                  have hcy : c < y.2.length := by omega
                  have hyc : y.2[c]? = some y.2[c] := List.getElem?_eq_getElem hcy
                  rw [at0_get hcy] at hcs
                  by_cases hf : y.2[c] = 0
                  · have hS2 : L4 = clrL b c a.length L3 (t + 1) := by
                      rw [hcs, hf, elm_zero (by omega) hyb]
                      have : (y.1, y.2) = L4[t] := hL4t.symm
                      rw [this, List.set_getElem_self]
                    simp only [rowE] at hrt4
                    simp [e6, e12, e13, e14, e134, e135, ct', ek', hT4, hl4, hLt4, rowC, hrt4, hyc, hf, cU]
                    refine ⟨ct, hcy, ?_⟩
                    exact ⟨(q - 1), by omega, (hRR _ _).2 ⟨_, H4, L4, t + 1, (by first | rfl | (simp [e1, e6, e12, e13, e14, e134, w_t]; done) | (simp [e1, e6, e12, e13, e14, e134, w_t]; rfl) | (simp [e1, e6, e12, e13, e14, e134, w_t]; and_intros <;> rfl)), by simp [e1, w_t], by simp [e6, w_t], by simp [e12, w_t], by simp [e13, w_t], by simp [e14, w_t], by simp [e134, w_t], by simp [w_t], hH4, hS2, by omega⟩⟩
                  · have hfb := hyb c hcy
                    obtain ⟨f, hff⟩ : ∃ f, y.2[c] = f := ⟨_, rfl⟩
                    rw [hff] at hfb hf hcs hyc
                    simp only [rowE] at hrt4
                    simp [e6, e12, e13, e14, e134, e135, ct', ek', hT4, hl4, hLt4, rowC, hrt4, hyc, hf, cU]
                    refine ⟨ct, hcy, ct, hcy, ct, ?_⟩
                    have hyl64 : y.2.length ≤ 64 := by omega
                    have hel : (elm PP f b y.2).length = y.2.length := elm_len PP f (by omega)
                    obtain ⟨FF, hFF⟩ : ∃ FF : Nat → St → Prop, ∀ u s', FF u s' ↔ (∃ e H5 L5 i, s' = ⟨e, H5⟩ ∧ e 1 = vI .i64 cols ∧ e 6 = .one (.sl 2 0 m.length m.length) ∧ e 12 = .one (.sl d 0 a.length a.length) ∧ e 13 = vI .i64 (c : Nat) ∧ e 14 = vI .i64 a.length ∧ e 134 = vI .i64 m.length ∧ e 135 = vI .i64 (t : Nat) ∧ e 19 = vI .i64 (t : Nat) ∧ e 20 = vI .u64 f ∧ e 162 = vI .i64 y.2.length ∧ e 163 = vI .i64 (i : Nat) ∧ (CH H5 L5 d a) ∧ (L5 = L4.set t (y.1, mixR y.2 (elm PP f b y.2) i)) ∧ (i + u = y.2.length)) := ⟨_, fun _ _ => Iff.rfl⟩
                    refine wpL_ind FF ?_ y.2.length _ ((hFF _ _).2 ⟨_, H4, L4, 0, (by first | rfl | (simp [e1, e6, e12, e13, e14, e134, e135]; done) | (simp [e1, e6, e12, e13, e14, e134, e135]; rfl) | (simp [e1, e6, e12, e13, e14, e134, e135]; and_intros <;> rfl)), by simp [e1], by simp [e6], by simp [e12], by simp [e13], by simp [e14], by simp [e134], by simp [e135], by simp, by simp, by simp, by simp, hH4, by rw [mixR_zero]; exact (by rw [show (y.1, y.2) = L4[t] from hL4t.symm, List.set_getElem_self]), by omega⟩)
                    clear e1 e6 e12 e13 e14 e134 e135
                    intro u stFF hstFF
                    obtain ⟨e, H5, L5, i, rfl, e1, e6, e12, e13, e14, e134, e135, e19, e20, e162, e163, hH5, hL5, su⟩ := (hFF _ _).1 hstFF
                    have hl5 : L5.length = m.length := by rw [hL5, List.length_set]; exact hl4
                    have htL5 : t < L5.length := by omega
                    have hkL5 : a.length < L5.length := by omega
                    have hL5t : L5[t] = (y.1, mixR y.2 (elm PP f b y.2) i) := by subst hL5; simp
                    have hL5k : L5[a.length] = (x.1, b) := by
                      subst hL5
                      rw [List.getElem_set_ne ek, hL4k]
                    have hT5 := hH5.mh.top' (by omega)
                    have hLt5 : L5[t]? = some (y.1, mixR y.2 (elm PP f b y.2) i) := by rw [List.getElem?_eq_getElem htL5, hL5t]
                    have hLk5 : L5[a.length]? = some (x.1, b) := by rw [List.getElem?_eq_getElem hkL5, hL5k]
                    have hrt5 := hH5.mh.rows t htL5
                    rw [hL5t] at hrt5
                    have hrk5 := hH5.mh.rows a.length hkL5
                    rw [hL5k] at hrk5
                    by_cases ci5 : i < y.2.length
                    · have ci5' : (i : Int) < y.2.length := by omega
                      have hib : i < b.length := by omega
                      have hyi : (mixR y.2 (elm PP f b y.2) i)[i]? = some y.2[i] := mixR_get ci5 (Nat.le_refl _)
                      have hbi : b[i]? = some b[i] := List.getElem?_eq_getElem hib
                      have hMu := field_Mul hfb.1 (by omega) (hbb i hib).1 (by have := (hbb i hib).2; omega)
                      have hSu := field_Sub (hyb i ci5).1 (by have := (hyb i ci5).2; omega) (b := f * b[i] % 2305843009213693951) (by omega) (by omega)
                      have hs5 := st_row (nest := true) (j := i) (n := y.2.length) (v := (y.2[i] - f * b[i] % 2305843009213693951) % 2305843009213693951) hrt5 (by rw [mixR_len]; exact ci5) (mixR_len ..)
                      have hset : (mixR y.2 (elm PP f b y.2) i).set i ((y.2[i] - f * b[i] % 2305843009213693951) % 2305843009213693951) = mixR y.2 (elm PP f b y.2) (i + 1) := by
                        rw [← mixR_set ci5 hel.symm]
                        simp [elm]
                      rw [hset] at hs5
                      have hN := hH5.row htL5 (r := mixR y.2 (elm PP f b y.2) (i + 1)) (by rw [hL5t]; simp [mixR_len])
                      rw [hL5t] at hN
                      have hN2 : L5.set t (y.1, mixR y.2 (elm PP f b y.2) (i + 1)) = L4.set t (y.1, mixR y.2 (elm PP f b y.2) (i + 1)) := by rw [hL5, List.set_set]
                      obtain ⟨H6, hH6⟩ : ∃ H6, H5.set y.1 (rowE (mixR y.2 (elm PP f b y.2) (i + 1))) = H6 := ⟨_, rfl⟩
                      rw [hH6] at hN hs5
                      obtain ⟨g, hg⟩ : ∃ g, f * b[i] % 2305843009213693951 = g := ⟨_, rfl⟩
                      rw [hg] at hMu hSu hs5
                      simp only [rowE] at hrt5 hrk5
                      have hml : (mixR y.2 (elm PP f b y.2) i).length = y.2.length := mixR_len ..
                      have w_i : IntKind.i64.wrap ((i : Int) + 1) = ((i + 1 : Nat) : Int) := by rw [w64_id (by omega) (by omega)]; omega
                      simp [e6, e14, e19, e20, e135, e162, e163, ci5', hT5, hLt5, hLk5, hl5, hrt5, hrk5, rowC, hyi, hbi, hml, hMu, hSu, hs5, cU]
                      refine ⟨ct, ci5, hak, hib, ci5, ?_⟩
                      exact ⟨(u - 1), by omega, (hFF _ _).2 ⟨_, H6, _, i + 1, (by first | rfl | (simp [e1, e6, e12, e13, e14, e19, e20, e134, e135, e162, w_i]; done) | (simp [e1, e6, e12, e13, e14, e19, e20, e134, e135, e162, w_i]; rfl) | (simp [e1, e6, e12, e13, e14, e19, e20, e134, e135, e162, w_i]; and_intros <;> rfl)), by simp [e1, w_i], by simp [e6, w_i], by simp [e12, w_i], by simp [e13, w_i], by simp [e14, w_i], by simp [e134, w_i], by simp [e135, w_i], by simp [e19, w_i], by simp [e20, w_i], by simp [e162, w_i], by simp [w_i], hN, hN2, by omega⟩⟩
                    · have ci5' : ¬ (i : Int) < y.2.length := by omega
                      rw [mixR_all hel.symm (by omega), ← hcs] at hL5
                      simp [e6, e135, e162, e163, ci5']
                      exact ⟨(q - 1), by omega, (hRR _ _).2 ⟨_, H5, L5, t + 1, (by first | rfl | (simp [e1, e6, e12, e13, e14, e134, w_t]; done) | (simp [e1, e6, e12, e13, e14, e134, w_t]; rfl) | (simp [e1, e6, e12, e13, e14, e134, w_t]; and_intros <;> rfl)), by simp [e1, w_t], by simp [e6, w_t], by simp [e12, w_t], by simp [e13, w_t], by simp [e14, w_t], by simp [e134, w_t], by simp [w_t], hH5, hL5, by omega⟩⟩
              · have ct' : ¬ (t : Int) < m.length := by omega
                obtain ⟨H5, ha5, hH5⟩ := hH4.push (by omega) c
                have hst5 : clrTo PP invF M (c + 1) = (rws L4, a ++ [c]) := by
                  rw [clrTo_succ, hst, clrS, hpv]
                  dsimp only
                  rw [stp, bas, hrr, at0_get hcx, hvv, hb, hL4, clrL_rws hrw3 (by omega)]
                have w_c : IntKind.i64.wrap ((c : Int) + 1) = ((c + 1 : Nat) : Int) := by rw [w64_id (by omega) (by omega)]; omega
                simp [e6, e12, e13, e14, e134, e135, ct', cellsOf?, vbuildSlice_eq es105 el3, fzParts, setAll, rchParts, rch, ha5]
                exact ⟨(k - 1), by omega, (hO _ _).2 ⟨_, H5, L4, d, a ++ [c], c + 1, (by first | rfl | (simp [e1, e6, w_c]; done) | (simp [e1, e6, w_c]; rfl) | (simp [e1, e6, w_c]; and_intros <;> rfl)), by simp [e1, w_c], by simp [e6, w_c], by simp [w_c], by simp [w_c], hH5, by omega, hl4, hst5⟩⟩
        · have hpm : p = m.length := by omega
          have cp' : ¬ (p : Int) < m.length := by omega
          simp [e6, e13, e14, e15, hpm, hTop, hLl]
          have w_c : IntKind.i64.wrap ((c : Int) + 1) = ((c + 1 : Nat) : Int) := by rw [w64_id (by omega) (by omega)]; omega
          have hpn : pvt (rws L) c a.length = none := pvt_no fun j h1 h2 => hp3 j h1 (by rw [rws_len] at h2; omega)
          exact ⟨(k - 1), by omega, (hO _ _).2 ⟨_, H, L, d, a, c + 1, (by first | rfl | (simp [e1, e6, e12, w_c]; done) | (simp [e1, e6, e12, w_c]; rfl) | (simp [e1, e6, e12, w_c]; and_intros <;> rfl)), by simp [e1, w_c], by simp [e6, w_c], by simp [e12, w_c], by simp [w_c], hH, by omega, hLl, by rw [clrTo_succ, hst, clrS, hpn]⟩⟩
      · have hcc' : (c : Int) < cols := by omega
        have hak' : ¬ (a.length : Int) < m.length := by omega
        have hst6 : clrTo PP invF M cols = (rws L, a) := by
          have : ∀ n, clrTo PP invF M (c + n) = (rws L, a) := fun n => by
            induction n with
            | zero => exact hst
            | succ n ih =>
              have hno : pvt (rws L) (c + n) a.length = none := pvt_no (by intro j h1 h2; rw [rws_len] at h2; omega)
              rw [← Nat.add_assoc, clrTo_succ, ih]
              simp only [clrS, hno]
          rw [show cols = c + (cols - c) by omega]
          exact this _
        have hf1 := hH.fz1 (n := m.length) (by omega) (by omega)
        have hf2 := hH.fz2
        rw [hst6]
        simp [-fzc, e1, e6, e12, e13, hcc', hak', hTop, hAt, hLl, hf1, hf2]
        rfl
    · have hcc' : ¬ (c : Int) < cols := by omega
      have hst6 : clrTo PP invF M cols = (rws L, a) := by rw [show cols = c by omega]; exact hst
      have hf1 := hH.fz1 (n := m.length) (by omega) (by omega)
      have hf2 := hH.fz2
      rw [hst6]
      simp [-fzc, e1, e6, e12, e13, hcc', hf1, hf2]
      rfl
end Go.Proofs.YtmgnmnogiajlgaaF
end

section
/- Solve: one solution. -/
set_option maxRecDepth 8192
set_option maxHeartbeats 2000000
namespace Go.Proofs.YtmgnmnogiajlgaaF
open Go Go.Proofs.Vm Go.Proofs.Vm.Fld

theorem u64_Clone0 {H : Hp} : TV.S 69 [.one (.c (cUr []))] H = some (.one (.sl H.length 0 0 0), H ++ [.clo [] false]) := by
  refine TT_baseS ?_
  simp only [cfg, strCloTab, cUr, List.map_nil]
  rfl
theorem u64_Clone1 {r : List Int} {H : Hp} (h0 : r ≠ []) (hl : r.length ≤ 100000) : TV.S 69 [.one (.c (cUr r))] H = some (.one (.sl (H.length + 1) 0 r.length r.length), H ++ [.clo [] false, .clo (r.map cU) false]) := by
  obtain ⟨x, t, rfl⟩ : ∃ h t, r = h :: t := by cases r with | nil => exact absurd rfl h0 | cons h t => exact ⟨h, t, rfl⟩
  refine run69 rfl (by simp) (by simp) ?_
  have ha := vappend_eq (P := Try.prog) (H := H ++ [.clo [] false, .clo [] false]) (t := 112) (tx := 112) (id := H.length + 1) (n := 0) (l := []) (xs := (x :: t).map cU) (x := .one (.c (cUr (x :: t)))) es112 es112 el22
    (by simp) rfl rfl (by simp) (by intro e he; obtain ⟨c, -, rfl⟩ := List.mem_map.1 he; rfl) (by simp only [List.length_map]; omega) (by simp only [List.length_map]; omega)
  simp [cUr] at ha
  simp [Try.f69, cUr, vmove, isNil, bin_sln es112, bs_zero es112 el22, ha]
/-- A clone lies behind what is there. -/
theorem u64_Clone {r : List Int} {H : Hp} (hl : r.length ≤ 100000) : ∃ K : Hp, (∀ (id : Nat) e, H[id]? = some e → K[id]? = some e) ∧ H.length ≤ K.length ∧ TV.S 69 [.one (.c (cUr r))] H = some (.one (.sl K.length 0 r.length r.length), K ++ [.clo (r.map cU) false]) := by
  by_cases h : r = []
  · subst h; exact ⟨H, fun _ _ h => h, Nat.le_refl _, u64_Clone0⟩
  · refine ⟨H ++ [.clo [] false], fun id e he => ?_, by simp, ?_⟩
    · rw [List.getElem?_append_left (List.getElem?_eq_some_iff.1 he).1]; exact he
    · rw [u64_Clone1 h hl, List.length_append, List.length_singleton, List.append_assoc]; rfl
theorem mod_at {α : Type} {f : α → α} {a : α} {L : List α} : ∀ K : List α, (K ++ a :: L).modify K.length f = K ++ f a :: L
  | [] => by simp
  | x :: K => by simp [mod_at K]
theorem redR_at (m : List (List Int)) : ∀ r, r < (m.map redR).length → ∀ j, 0 ≤ at0 (row (m.map redR) r) j ∧ at0 (row (m.map redR) r) j < PP := fun r hr j => by
  have hr' : r < m.length := by simpa using hr
  rw [row_eq hr]
  simp only [List.getElem_map, redR, at0, List.getD_eq_getElem?_getD, List.getElem?_map]
  cases (m[r])[j]? with
  | none => simp [PP]
  | some v => simp only [Option.map_some, Option.getD_some]; exact ⟨by omega, by show _ < (2305843009213693951 : Int); omega⟩
theorem slc_from {P : Program} {H : Hp} {t e sz : Nat} (he : elemOfSlice P t = some e) (hs : pv P (sizeOf e) = some sz) {xs : List (List CV)} {nid k : Nat} (h1 : k ≤ xs.length) (hx : AllLen xs sz) : vslice P H nid t (.one (.c (.arr xs))) (some (vI .i64 (k : Int))) none none = qa (.one (.c (.arr (xs.drop k)))) := by
  unfold vslice
  simp only [he, hs, optInt, Option.getD_none, Option.getD_some]
  rw [if_pos ⟨by omega, by omega, Int.le_refl _, hx⟩]
  have e1 : ((xs.length : Int) - (k : Int)).toNat = xs.length - k := by omega
  simp
  rw [List.take_of_length_le (by simp)]
/-- The rows with their right sides. -/
def wideR (m : List (List Int)) (b : List Int) : List (List Int) := List.zipWith (fun r x => r ++ [x]) m b
theorem sv_Solve {m : List (List Int)} {b : List Int} {cols : Nat} (h0 : m ≠ []) (hc : cols ≤ 32) (hw : ∀ r ∈ m, r.length = cols) (hn : ∀ r ∈ m, ∀ n ∈ r, 0 ≤ n ∧ n < 18446744073709551616) (hb : ∀ n ∈ b, 0 ≤ n ∧ n < 18446744073709551616) (hbl : b.length = m.length) (hm : m.length ≤ 32) :
    TV.pu 54 [.one (cUm m), .one (cUr b)] = some (.tup [(false, [cUr (solF PP invF ((wideR m b).map redR) cols).2]), (false, [.v (.int .i64 (solF PP invF ((wideR m b).map redR) cols).1)])]) := by
  refine run54 (by simp) ?_
  have hev := sv_even (m := m) (by omega)
  have he : evenB m = true := by
    obtain ⟨x, t, rfl⟩ : ∃ h t, m = h :: t := by cases m with | nil => exact absurd rfl h0 | cons h t => exact ⟨h, t, rfl⟩
    have hx := hw x (by simp)
    have : (x :: t).any (unevB (x :: t)) = false := by
      rw [List.any_eq_false]
      intro r hr
      have := hw r hr
      simp [unevB]
      omega
    rw [evenB, this, decide_eq_true hm]
    rfl
  rw [he] at hev
  simp only [cUm, cUr] at hev
  have hbl' : ((b.length : Int) != (m.length : Int)) = false := by simp [hbl]
  have hm0 : ((m.length : Int) == 0) = false := by
    have := List.length_pos_iff.2 h0
    simp; omega
  obtain ⟨x0, hx0, hx0l⟩ : ∃ x, m[0]? = some x ∧ x.length = cols := by
    have := List.length_pos_iff.2 h0
    exact ⟨m[0], List.getElem?_eq_getElem this, hw _ (List.getElem_mem this)⟩
  simp [Try.f54, cUm, cUr, hev, hbl', hm0, hx0, hx0l]
  obtain ⟨I, hI⟩ : ∃ I : Nat → St → Prop, ∀ k s', I k s' ↔ (∃ e H i, s' = ⟨e, H⟩ ∧ e 0 = .one (.c (cUm m)) ∧ e 1 = .one (.c (cUr b)) ∧ e 6 = vI .i64 cols ∧ e 7 = .one (.sl 1 0 i i) ∧ e 33 = .one (.c (cUm m)) ∧ e 34 = vI .i64 m.length ∧ e 35 = vI .i64 (i : Nat) ∧ (i + k = m.length) ∧ (H[1]? = some (.clo (((wideR m b).map fun r => [cUr r]).take i) false))) := ⟨_, fun _ _ => Iff.rfl⟩
  refine wpL_ind I ?_ m.length _ ((hI _ _).2 ⟨_, [.clo [] false, .clo [] false], 0, (by first | rfl | (simp [cUm, cUr]; done) | (simp [cUm, cUr]; rfl) | (simp [cUm, cUr]; and_intros <;> rfl)), by simp [cUm, cUr], by simp [cUr], by simp, by simp, by simp [cUm, cUr], by simp, by simp, by omega, rfl⟩)
  intro k stI hstI
  obtain ⟨e, H, i, rfl, e0, e1, e6, e7, e33, e34, e35, hi, hH⟩ := (hI _ _).1 hstI
  by_cases c : i < m.length
  · have c' : (i : Int) < m.length := by omega
    obtain ⟨r, hr⟩ : ∃ r, m[i] = r := ⟨_, rfl⟩
    have hri : m[i]? = some r := by rw [List.getElem?_eq_getElem c, hr]
    have hrm : r ∈ m := hr ▸ List.getElem_mem c
    have hrl := hw r hrm
    have hib : i < b.length := by omega
    have hbi : b[i]? = some b[i] := List.getElem?_eq_getElem hib
    obtain ⟨x, hx⟩ : ∃ x, b[i] = x := ⟨_, rfl⟩
    rw [hx] at hbi
    obtain ⟨K, hK, hHK, hCl⟩ := u64_Clone (r := r) (H := H) (by omega)
    have hH' := hK _ _ hH
    simp only [cUr] at hCl
    have w_i : IntKind.i64.wrap ((i : Int) + 1) = ((i + 1 : Nat) : Int) := by rw [w64_id (by omega) (by omega)]; omega
    have ha1 := vappend_eq (P := Try.prog) (H := K ++ [.clo (r.map cU) false]) (t := 112) (tx := 112) (id := K.length) (n := r.length) (l := r.map cU) (xs := [cU x]) (x := .one (.c (.arr [cU x]))) es112 es112 el22
      (by simp) rfl (by simp) (by intro e he; obtain ⟨c, -, rfl⟩ := List.mem_map.1 he; rfl) (by simp [cU]) (by simp only [List.length_singleton]; omega) (by simp only [List.length_singleton]; omega)
    simp only [List.length_singleton, cU] at ha1
    obtain ⟨rx, hrx⟩ : ∃ rx, r ++ [x] = rx := ⟨_, rfl⟩
    have hT : List.take (r.length + 1) (r.map cU ++ [[CV.v (Value.int .u64 x)]]) = rx.map cU := by
      rw [← hrx, List.map_append, List.take_of_length_le (by simp)]; rfl
    have hwl : (wideR m b).length = m.length := by simp [wideR, hbl]
    have hwi : (wideR m b)[i]? = some rx := by rw [← hrx]; simp [wideR, hri, hbi, List.getElem?_zipWith]
    have hl1 : 1 < K.length := (List.getElem?_eq_some_iff.1 hH').1
    have ha2 := vappend_eq (P := Try.prog) (H := K ++ [.clo (r.map cU ++ [[CV.v (Value.int .u64 x)]]) true, .clo [[.arr (rx.map cU)]] false]) (t := 111) (tx := 111) (id := 1) (n := i) (l := ((wideR m b).map fun r => [cUr r]).take i) (xs := [[.arr (rx.map cU)]]) (x := .one (.sl (K.length + 1) 0 1 1)) es111 es111 el112
      (by rw [List.getElem?_append_left hl1]; exact hH') (by simp [elemsOf]) (by simp; omega) (by intro e he; obtain ⟨y, -, rfl⟩ := List.mem_map.1 (List.mem_of_mem_take he); rfl) (by simp) (by simp only [List.length_singleton]; omega) (by simp only [List.length_singleton]; omega)
    have hN : (K ++ [Ent.clo (r.map cU ++ [[CV.v (Value.int .u64 x)]]) true, Ent.clo [[.arr (rx.map cU)]] false]).set 1 (.clo ((((wideR m b).map fun r => [cUr r]).take i) ++ [[.arr (rx.map cU)]]) false) = K.set 1 (.clo (((wideR m b).map fun r => [cUr r]).take (i + 1)) false) ++ [.clo (r.map cU ++ [[CV.v (Value.int .u64 x)]]) true, .clo [[.arr (rx.map cU)]] false] := by
      rw [List.set_append_left _ _ hl1, List.take_add_one, List.getElem?_map, hwi]
      rfl
    rw [hN] at ha2
    simp only [List.length_singleton] at ha2
    simp [e1, e6, e7, e33, e34, e35, cUm, cUr, c', hri, hbi, hCl, cU, cellsOf?, fzParts, setAll, rchParts, rch, vbuildC_eq es112 el22, vbuildSlice_eq es111 el112, frzAll, Ent.frz, ha1, hT, ha2]
    refine ⟨(k - 1), by omega, (hI _ _).2 ⟨_, _, i + 1, (by first | rfl | (simp [e0, e1, e6, e33, e34, w_i, cUm, cUr]; done) | (simp [e0, e1, e6, e33, e34, w_i, cUm, cUr]; rfl) | (simp [e0, e1, e6, e33, e34, w_i, cUm, cUr]; and_intros <;> rfl)), by simp [e0, w_i, cUm, cUr], by simp [e1, w_i, cUr], by simp [e6, w_i], by simp [w_i], by simp [e33, w_i, cUm, cUr], by simp [e34, w_i], by simp [w_i], by omega, by rw [List.getElem?_append_left (by rw [List.length_set]; exact hl1)]; exact set_self hH'⟩⟩
  · have c' : ¬ (i : Int) < m.length := by omega
    have hi' : i = m.length := by omega
    subst hi'
    have hwl : (wideR m b).length = m.length := by simp [wideR, hbl]
    rw [List.take_of_length_le (by rw [List.length_map, hwl]; exact Nat.le_refl _)] at hH
    have hWw : ∀ r ∈ wideR m b, r.length = cols + 1 := fun r hr => by
      obtain ⟨j, hj, rfl⟩ := List.getElem_of_mem hr
      have hj' : j < m.length := by omega
      simp only [wideR, List.getElem_zipWith, List.length_append, List.length_singleton, hw _ (List.getElem_mem hj')]
    have hWn : ∀ r ∈ wideR m b, ∀ n ∈ r, 0 ≤ n ∧ n < 18446744073709551616 := fun r hr n hnr => by
      obtain ⟨j, hj, rfl⟩ := List.getElem_of_mem hr
      have hj' : j < m.length := by omega
      have hjb : j < b.length := by omega
      simp only [wideR, List.getElem_zipWith] at hnr
      rcases List.mem_append.1 hnr with h | h
      · exact hn _ (List.getElem_mem hj') _ h
      · rw [List.mem_singleton.1 h]; exact hb _ (List.getElem_mem hjb)
    have hW0 : wideR m b ≠ [] := fun e => by rw [e] at hwl; have := List.length_pos_iff.2 h0; simp at hwl; omega
    obtain ⟨W, hW⟩ : ∃ W, wideR m b = W := ⟨_, rfl⟩
    rw [hW] at hH hwl hWw hWn hW0 ⊢
    have hcl := sv_clear (m := W) (cols := cols) (w := cols + 1) hW0 hWw hWn (by omega) (by omega) (by omega)
    have hinv := clr_inv (p := PP) inv_ok (m := W.map redR) (w := cols + 1) (fun r hr => by
      obtain ⟨x, hx, rfl⟩ := List.mem_map.1 hr
      simp [redR, hWw x hx]) (redR_at W) cols
    obtain ⟨M, a, hst⟩ : ∃ M a, clrTo PP invF (W.map redR) cols = (M, a) := ⟨_, _, rfl⟩
    unfold solF
    rw [hst] at hcl hinv ⊢
    dsimp only at hcl hinv ⊢
    obtain ⟨hE, -, hMl⟩ := hinv
    rw [List.length_map, hwl] at hMl
    have hal := hE.le
    have hMw : ∀ r ∈ M, r.length = cols + 1 := hE.len
    have hMW : ∀ (j : Nat), j < M.length → (row M j)[cols]? = some (at0 (row M j) cols) := fun j hj => by
      have := hMw _ (row_mem hj)
      rw [at0_get (by omega), List.getElem?_eq_getElem]
    simp only [cUm, cUr] at hcl
    have hWt : (W.map fun r => [CV.arr (r.map cU)]).take m.length = W.map fun r => [CV.arr (r.map cU)] := List.take_of_length_le (by rw [List.length_map, hwl]; exact Nat.le_refl _)
    simp [e6, e7, e33, e34, e35, cUm, cUr, c', hH, hcl, hwl, hWt, rcha, rch, frzAll, slc_from (P := Try.prog) es111 sz112 (xs := M.map fun r => [CV.arr (r.map cU)]) (k := a.length) (by rw [List.length_map]; omega) (by intro x hx; obtain ⟨y, -, rfl⟩ := List.mem_map.1 hx; rfl)]
    have hML : (M.length - a.length : Nat) = (M.length : Int) - a.length := by omega
    obtain ⟨J, hJ⟩ : ∃ J : Nat → St → Prop, ∀ k2 s', J k2 s' ↔ (∃ e G j, s' = ⟨e, G⟩ ∧ e 6 = vI .i64 cols ∧ e 10 = .one (.c (cUm M)) ∧ e 11 = .one (.c (.arr (a.map fun (n : Nat) => cInt (n : Int)))) ∧ e 61 = .one (.c (cUm (M.drop a.length))) ∧ e 62 = vI .i64 ((M.length - a.length : Nat) : Int) ∧ e 63 = vI .i64 (j : Nat) ∧ (j + k2 = M.length - a.length) ∧ (∀ q, a.length ≤ q → q < a.length + j → at0 (row M q) cols = 0)) := ⟨_, fun _ _ => Iff.rfl⟩
    refine wpL_ind J ?_ (M.length - a.length) _ ((hJ _ _).2 ⟨_, _, 0, (by first | rfl | (simp [e6, cUm, cUr, cInt, hML]; done) | (simp [e6, cUm, cUr, cInt, hML]; rfl) | (simp [e6, cUm, cUr, cInt, hML]; and_intros <;> rfl)), by simp [e6, cInt, hML], by simp [cUm, cUr, cInt, hML], by simp [cInt, hML], by simp [cUm, cUr, cInt, hML], by simp [cInt, hML], by simp [cInt, hML], by omega, fun q h1 h2 => by omega⟩)
    clear e0 e1 e6 e7 e33 e34 e35
    intro k2 stJ hstJ
    obtain ⟨e, G, j, rfl, e6, e10, e11, e61, e62, e63, hj, hz⟩ := (hJ _ _).1 hstJ
    by_cases cj : j < M.length - a.length
    · have cj' : (j : Int) < ((M.length - a.length : Nat) : Int) := by omega
      have hq : a.length + j < M.length := by omega
      have hMj : M[a.length + j]? = some (row M (a.length + j)) := by rw [row_eq hq, List.getElem?_eq_getElem hq]
      have hMc := hMW _ hq
      obtain ⟨v, hv⟩ : ∃ v, at0 (row M (a.length + j)) cols = v := ⟨_, rfl⟩
      rw [hv] at hMc
      have w_j : IntKind.i64.wrap ((j : Int) + 1) = ((j + 1 : Nat) : Int) := by rw [w64_id (by omega) (by omega)]; omega
      by_cases hv0 : v = 0
      · simp [e6, e11, e61, e62, e63, cUm, cUr, cj', hMj, hMc, hv0, cU]
        refine ⟨(k2 - 1), by omega, (hJ _ _).2 ⟨_, _, j + 1, (by first | rfl | (simp [e6, e10, e11, e61, e62, cUm, cUr, w_j]; done) | (simp [e6, e10, e11, e61, e62, cUm, cUr, w_j]; rfl) | (simp [e6, e10, e11, e61, e62, cUm, cUr, w_j]; and_intros <;> rfl)), by simp [e6, w_j], by simp [e10, cUm, cUr, w_j], by simp [e11, w_j], by simp [e61, cUm, cUr, w_j], by simp [e62, w_j], by simp [w_j], by omega, ?_⟩⟩
        intro q h1 h2
        by_cases ej : q = a.length + j
        · rw [ej, hv, hv0]
        · exact hz q h1 (by omega)
      · simp [e6, e11, e61, e62, e63, cUm, cUr, cj', hMj, hMc, hv0, cU]
        rw [if_pos (badR_iff.2 ⟨a.length + j, by show a.length ≤ _; omega, hq, by show at0 (row M (a.length + j)) cols ≠ 0; rw [hv]; exact hv0⟩)]
        exact ⟨rfl, rfl⟩
    · have cj' : ¬ (j : Int) < ((M.length - a.length : Nat) : Int) := by omega
      have hb0 : ¬ badR (M, a) cols = true := fun h => by
        obtain ⟨r, k1, k2', k3⟩ := badR_iff.1 h
        exact k3 (hz r k1 (by have : r < M.length := k2'; omega))
      rw [if_neg hb0]
      by_cases cl : a.length < cols
      · have cl' : (a.length : Int) < cols := by omega
        rw [if_pos cl]
        simp [e6, e11, e61, e62, e63, cUm, cUr, cj', cl']
      · have cl' : ¬ (a.length : Int) < cols := by omega
        rw [if_neg cl]
        simp [e6, e11, e61, e62, e63, cUm, cUr, cj', cl']
        obtain ⟨L, hL⟩ : ∃ L : Nat → St → Prop, ∀ k3 s', L k3 s' ↔ (∃ e G d i, s' = ⟨e, G⟩ ∧ e 6 = vI .i64 cols ∧ e 10 = .one (.c (cUm M)) ∧ e 14 = .one (.sl d 0 i i) ∧ e 77 = vI .i64 cols ∧ e 78 = vI .i64 (i : Nat) ∧ (i + k3 = cols) ∧ (G[d]? = some (.clo (((List.range cols).map fun i => cU (at0 (row M i) cols)).take i) false))) := ⟨_, fun _ _ => Iff.rfl⟩
        refine wpL_ind L ?_ cols _ ((hL _ _).2 ⟨_, _, G.length, 0, (by first | rfl | (simp [e6, e10, cUm, cUr]; done) | (simp [e6, e10, cUm, cUr]; rfl) | (simp [e6, e10, cUm, cUr]; and_intros <;> rfl)), by simp [e6], by simp [e10, cUm, cUr], by simp, by simp, by simp, by omega, by simp⟩)
        clear e6 e10 e11 e61 e62 e63
        intro k3 stL hstL
        obtain ⟨e, G, d, i, rfl, e6, e10, e14, e77, e78, hi, hG⟩ := (hL _ _).1 hstL
        have hlr : ∀ q, (((List.range cols).map fun i => cU (at0 (row M i) cols)).take q).length = min q cols := fun q => by simp
        by_cases ci : i < cols
        · have ci' : (i : Int) < cols := by omega
          have hq : i < M.length := by omega
          have hMj : M[i]? = some (row M i) := by rw [row_eq hq, List.getElem?_eq_getElem hq]
          have hMc := hMW _ hq
          have hrg : ((List.range cols).map fun i => cU (at0 (row M i) cols))[i]? = some (cU (at0 (row M i) cols)) := by simp [ci]
          obtain ⟨v, hv⟩ : ∃ v, at0 (row M i) cols = v := ⟨_, rfl⟩
          rw [hv] at hMc hrg
          have hdG := (List.getElem?_eq_some_iff.1 hG).1
          have w_i : IntKind.i64.wrap ((i : Int) + 1) = ((i + 1 : Nat) : Int) := by rw [w64_id (by omega) (by omega)]; omega
          have ha3 := vappend_eq (P := Try.prog) (H := G ++ [.clo [cU v] false]) (t := 112) (tx := 112) (id := d) (n := i) (l := ((List.range cols).map fun i => cU (at0 (row M i) cols)).take i) (xs := [cU v]) (x := .one (.sl G.length 0 1 1)) es112 es112 el22
            (by rw [List.getElem?_append_left hdG]; exact hG) (by simp [elemsOf]) (by rw [hlr]; omega) (by intro e he; obtain ⟨y, -, rfl⟩ := List.mem_map.1 (List.mem_of_mem_take he); rfl) (by simp [cU]) (by simp only [List.length_singleton]; omega) (by simp only [List.length_singleton]; omega)
          have hN3 : (((List.range cols).map fun i => cU (at0 (row M i) cols)).take i) ++ [cU v] = ((List.range cols).map fun i => cU (at0 (row M i) cols)).take (i + 1) := by
            rw [List.take_add_one, hrg]; rfl
          rw [hN3] at ha3
          obtain ⟨G2, hG2⟩ : ∃ G2, (G ++ [Ent.clo [cU v] false]).set d (.clo (((List.range cols).map fun i => cU (at0 (row M i) cols)).take (i + 1)) false) = G2 := ⟨_, rfl⟩
          have hG2d : G2[d]? = some (.clo (((List.range cols).map fun i => cU (at0 (row M i) cols)).take (i + 1)) false) := by
            rw [← hG2]; exact set_self (e0 := _) (by rw [List.getElem?_append_left hdG]; exact hG)
          rw [hG2] at ha3
          simp only [cU, List.length_singleton] at ha3
          simp [e6, e10, e14, e77, e78, cUm, cUr, ci', hMj, hMc, cU, cellsOf?, fzParts, setAll, rchParts, rch, vbuildSlice_eq es112 el22, ha3]
          exact ⟨(k3 - 1), by omega, (hL _ _).2 ⟨_, G2, d, i + 1, (by first | rfl | (simp [e6, e10, e77, w_i, cUm, cUr]; done) | (simp [e6, e10, e77, w_i, cUm, cUr]; rfl) | (simp [e6, e10, e77, w_i, cUm, cUr]; and_intros <;> rfl)), by simp [e6, w_i], by simp [e10, w_i, cUm, cUr], by simp [w_i], by simp [e77, w_i], by simp [w_i], by omega, hG2d⟩⟩
        · have ci' : ¬ (i : Int) < cols := by omega
          have hi : i = cols := by omega
          subst hi
          have hlr2 := hlr i
          rw [Nat.min_self] at hlr2
          have htk : ((List.range i).map fun j => cU (at0 (row M j) i)).take i = (List.range i).map fun j => cU (at0 (row M j) i) := List.take_of_length_le (by simp)
          rw [htk] at hG
          simp [e10, e14, e77, e78, ci', hG]
          rw [htk]
          rfl
end Go.Proofs.YtmgnmnogiajlgaaF
end

section
/- Joint: the equations of a radar's cells, and that what came solves them. -/
set_option maxRecDepth 8192
set_option maxHeartbeats 1000000
namespace Go.Proofs.YtmgnmnogiajlgaaF
open Go Go.Proofs.Vm Go.Proofs.Vm.Fld

/-- The equation of a cell: 1 at each key whose place it is. -/
def eqRow (R : Rad) (keys : List ByteArray) (i n p : Nat) : List Int := keys.map fun k => if rplc R k i n = (p : Int) then 1 else 0
def eqOf (R : Rad) (keys : List ByteArray) (i k : Nat) : List (List Int) := (List.range k).map fun p => eqRow R keys i (R.rows.getD i []).length p
def eqTo (R : Rad) (keys : List ByteArray) (i : Nat) : List (List Int) := ((List.range i).map fun j => eqOf R keys j (R.rows.getD j []).length).flatten
def eqAll (R : Rad) (keys : List ByteArray) : List (List Int) := eqTo R keys R.rows.length
def rhsTo (R : Rad) (f : RCl → Int) (i : Nat) : List Int := ((R.rows.take i).flatten).map f
def rhs (R : Rad) (f : RCl → Int) : List Int := R.rows.flatten.map f
def pkF (c : RCl) : Int := c.2.2.1
def byF (c : RCl) : Int := c.2.2.2
theorem eqRow_len (R : Rad) (keys : List ByteArray) (i n p : Nat) : (eqRow R keys i n p).length = keys.length := by simp [eqRow]
theorem dot_snoc : ∀ (r x : List Int) (b s : Int), r.length = x.length → dot (r ++ [b]) (x ++ [s]) = dot r x + b * s
  | [], [], b, s, _ => by simp [dot]
  | [], _ :: _, _, _, h => by simp at h
  | _ :: _, [], _, _, h => by simp at h
  | a :: r, y :: x, b, s, h => by
    have := dot_snoc r x b s (by simpa using h)
    show a * y + dot (r ++ [b]) (x ++ [s]) = a * y + dot r x + b * s
    omega
theorem dot_map_add (a f g : ByteArray → Int) : ∀ keys : List ByteArray, dot (keys.map a) (keys.map fun k => f k + g k) = dot (keys.map a) (keys.map f) + dot (keys.map a) (keys.map g)
  | [] => rfl
  | k :: keys => by
    have := dot_map_add a f g keys
    show a k * (f k + g k) + dot (keys.map a) (keys.map _) = (a k * f k + dot (keys.map a) (keys.map f)) + (a k * g k + dot (keys.map a) (keys.map g))
    rw [Int.mul_add]
    omega
theorem dot_map_zero (a : ByteArray → Int) : ∀ keys : List ByteArray, dot (keys.map a) (keys.map fun _ => 0) = 0
  | [] => rfl
  | k :: keys => by
    have := dot_map_zero a keys
    show a k * 0 + dot (keys.map a) (keys.map _) = 0
    omega
theorem dot_map_one (a : ByteArray → Int) (x : ByteArray) (c : Int) : ∀ keys : List ByteArray, keys.Nodup → x ∈ keys → dot (keys.map a) (keys.map fun k => if x = k then c else 0) = a x * c
  | [], _, h => by simp at h
  | k :: keys, hn, h => by
    obtain ⟨h1, h2⟩ := List.nodup_cons.1 hn
    show a k * (if x = k then c else 0) + dot (keys.map a) (keys.map _) = _
    by_cases e : x = k
    · subst e
      have : (keys.map fun k => if x = k then c else 0) = keys.map fun _ => 0 := List.map_congr_left fun k hk => if_neg fun e => h1 (by rw [e]; exact hk)
      rw [this, dot_map_zero, if_pos rfl]
      omega
    · rw [if_neg e]
      have hm : x ∈ keys := by
        rcases List.mem_cons.1 h with h | h
        · exact absurd h e
        · exact h
      rw [dot_map_one a x c keys h2 hm]
      omega
/-- What a key's packets come to. -/
def wOf (w : Pkt → Int) (L : List Pkt) (k : ByteArray) : Int := ((L.filter fun x => decide (x.1 = k)).map w).sum
theorem wOf_cons (w : Pkt → Int) (x : Pkt) (L : List Pkt) (k : ByteArray) : wOf w (x :: L) k = (if x.1 = k then w x else 0) + wOf w L k := by
  unfold wOf
  rw [List.filter_cons]
  by_cases h : x.1 = k
  · rw [if_pos (decide_eq_true h), if_pos h]; rfl
  · rw [if_neg (by simpa using h), if_neg h]; omega
theorem dot_keys (a : ByteArray → Int) (w : Pkt → Int) : ∀ (L : List Pkt) {keys : List ByteArray}, keys.Nodup → (∀ x ∈ L, x.1 ∈ keys) → dot (keys.map a) (keys.map (wOf w L)) = (L.map fun x => a x.1 * w x).sum
  | [], keys, _, _ => dot_map_zero a keys
  | x :: L, keys, hn, h => by
    have ih := dot_keys a w L hn fun y hy => h y (List.mem_cons_of_mem _ hy)
    have e : keys.map (wOf w (x :: L)) = keys.map fun k => (if x.1 = k then w x else 0) + wOf w L k := List.map_congr_left fun k _ => wOf_cons w x L k
    rw [e, dot_map_add, dot_map_one a x.1 (w x) keys hn (h x List.mem_cons_self)]
    show _ + dot (keys.map a) (keys.map (wOf w L)) = _
    rw [ih, List.map_cons, List.sum_cons]
theorem sum_pick (q : Pkt → Bool) (w : Pkt → Int) : ∀ L : List Pkt, (L.map fun x => (if q x = true then 1 else 0) * w x).sum = ((L.filter q).map w).sum
  | [] => rfl
  | x :: L => by
    rw [List.map_cons, List.sum_cons, sum_pick q w L, List.filter_cons]
    by_cases h : q x = true
    · rw [if_pos h, if_pos h, Int.one_mul]; rfl
    · rw [if_neg h, if_neg h, Int.zero_mul, Int.zero_add]
theorem count_sum (q : Pkt → Bool) : ∀ L : List Pkt, ((L.filter q).map fun _ => (1 : Int)).sum = ((L.countP q : Nat) : Int)
  | [] => rfl
  | x :: L => by
    have ih := count_sum q L
    rw [List.filter_cons, List.countP_cons]
    by_cases h : q x = true
    · rw [if_pos h, if_pos h, List.map_cons, List.sum_cons, ih]; omega
    · rw [if_neg h, if_neg h, ih]; omega
/-- What came solves the equations of the cells. -/
theorem enc_dot {s h : Int} {bits rows cols : Nat} (hc : 1 ≤ cols) {K keys : List ByteArray} {L : List Pkt} (hn : keys.Nodup) (hL : ∀ x ∈ L, x.1 ∈ keys) {i p : Nat} (_hp : p < cols) :
    dot (eqRow (encRad s h bits rows cols K L) keys i cols p) (keys.map (wOf (fun _ => 1) L)) = pkF (encC (pln s i cols) K L p) ∧ dot (eqRow (encRad s h bits rows cols K L) keys i cols p) (keys.map (wOf (·.2) L)) = byF (encC (pln s i cols) K L p) := by
  have hq : ∀ k : ByteArray, (if rplc (encRad s h bits rows cols K L) k i cols = (p : Int) then (1 : Int) else 0) = if (pln s i cols k == p) = true then 1 else 0 := fun k => by
    have hr := hcell_range (hrow s ((i : Int) + 1)) k (cols : Int) (by omega)
    have e : rplc (encRad s h bits rows cols K L) k i cols = (pln s i cols k : Int) := by
      show hcell (hrow s ((i : Int) + 1)) k (cols : Int) = _
      unfold pln; omega
    rw [e]
    by_cases c : pln s i cols k = p
    · rw [if_pos (by omega), if_pos (by simpa using c)]
    · rw [if_neg (by omega), if_neg (by simpa using c)]
  unfold eqRow
  simp only [hq]
  rw [dot_keys _ _ L hn hL, dot_keys _ _ L hn hL, sum_pick (fun x => pln s i cols x.1 == p), sum_pick (fun x => pln s i cols x.1 == p), count_sum]
  exact ⟨rfl, rfl⟩
theorem wide_mem {m : List (List Int)} {b : List Int} {r : List Int} (h : r ∈ wideR m b) : ∃ i, ∃ h1 : i < m.length, ∃ h2 : i < b.length, r = m[i] ++ [b[i]] := by
  obtain ⟨i, hi, rfl⟩ := List.getElem_of_mem h
  have hi' : i < m.length ∧ i < b.length := by simp only [wideR, List.length_zipWith] at hi; omega
  exact ⟨i, hi'.1, hi'.2, by simp [wideR]⟩
/-- The equations, cell by cell. -/
theorem eqTo_wide (R : Rad) (keys : List ByteArray) (f : RCl → Int) : ∀ i, i ≤ R.rows.length → (eqTo R keys i).length = (rhsTo R f i).length ∧ ∀ r ∈ wideR (eqTo R keys i) (rhsTo R f i), ∃ j, ∃ hj : j < R.rows.length, ∃ p, ∃ hp : p < R.rows[j].length, r = eqRow R keys j R.rows[j].length p ++ [f R.rows[j][p]]
  | 0, _ => by simp [eqTo, rhsTo, wideR]
  | i + 1, h => by
    obtain ⟨g1, g2⟩ := eqTo_wide R keys f i (by omega)
    have hi : i < R.rows.length := by omega
    have hd : R.rows.getD i [] = R.rows[i] := by rw [List.getD_eq_getElem?_getD, List.getElem?_eq_getElem hi]; rfl
    have e1 : eqTo R keys (i + 1) = eqTo R keys i ++ eqOf R keys i R.rows[i].length := by
      unfold eqTo
      rw [List.range_succ, List.map_append, List.flatten_append, List.map_singleton, List.flatten_singleton, hd]
    have e2 : rhsTo R f (i + 1) = rhsTo R f i ++ R.rows[i].map f := by
      unfold rhsTo
      rw [List.take_add_one, List.getElem?_eq_getElem hi, Option.toList_some, List.flatten_append, List.map_append, List.flatten_singleton]
    have e3 : wideR (eqTo R keys (i + 1)) (rhsTo R f (i + 1)) = wideR (eqTo R keys i) (rhsTo R f i) ++ wideR (eqOf R keys i R.rows[i].length) (R.rows[i].map f) := by
      rw [e1, e2]
      exact List.zipWith_append g1
    refine ⟨by rw [e1, e2, List.length_append, List.length_append, g1]; simp [eqOf], fun r hr => ?_⟩
    rw [e3] at hr
    rcases List.mem_append.1 hr with hr | hr
    · exact g2 r hr
    · obtain ⟨p, h1, h2, rfl⟩ := wide_mem hr
      have hp : p < R.rows[i].length := by simpa using h2
      exact ⟨i, hi, p, hp, by simp [eqOf, hi]⟩
theorem rhs_all (R : Rad) (f : RCl → Int) : rhsTo R f R.rows.length = rhs R f := by unfold rhsTo rhs; rw [List.take_length]
/-- What came solves them all. -/
theorem enc_ann {s h : Int} {bits rows cols : Nat} (hc : 1 ≤ cols) {K keys : List ByteArray} {L : List Pkt} (hn : keys.Nodup) (hL : ∀ x ∈ L, x.1 ∈ keys) (p : Int) :
    Ann p (wideR (eqAll (encRad s h bits rows cols K L) keys) (rhs (encRad s h bits rows cols K L) pkF)) (keys.map (wOf (fun _ => 1) L) ++ [-1]) ∧ Ann p (wideR (eqAll (encRad s h bits rows cols K L) keys) (rhs (encRad s h bits rows cols K L) byF)) (keys.map (wOf (·.2) L) ++ [-1]) := by
  have key : ∀ j (hj : j < (encRad s h bits rows cols K L).rows.length), (encRad s h bits rows cols K L).rows[j] = encRow (pln s j cols) K L cols := fun j hj => encRows_get hj
  have hlen : ∀ j (hj : j < (encRad s h bits rows cols K L).rows.length), (encRad s h bits rows cols K L).rows[j].length = cols := fun j hj => by rw [key j hj, encRow_len]
  constructor
  · intro r hr
    rw [← rhs_all] at hr
    obtain ⟨j, hj, q, hq, rfl⟩ := (eqTo_wide _ keys pkF _ (Nat.le_refl _)).2 r hr
    have hq' : q < cols := by rw [hlen j hj] at hq; exact hq
    have e : (encRad s h bits rows cols K L).rows[j][q] = encC (pln s j cols) K L q := by simp only [key j hj]; exact encRow_get _
    rw [dot_snoc _ _ _ _ (by rw [eqRow_len, List.length_map]), hlen j hj, (enc_dot hc hn hL hq').1, e]
    exact ⟨0, by omega⟩
  · intro r hr
    rw [← rhs_all] at hr
    obtain ⟨j, hj, q, hq, rfl⟩ := (eqTo_wide _ keys byF _ (Nat.le_refl _)).2 r hr
    have hq' : q < cols := by rw [hlen j hj] at hq; exact hq
    have e : (encRad s h bits rows cols K L).rows[j][q] = encC (pln s j cols) K L q := by simp only [key j hj]; exact encRow_get _
    rw [dot_snoc _ _ _ _ (by rw [eqRow_len, List.length_map]), hlen j hj, (enc_dot hc hn hL hq').2, e]
    exact ⟨0, by omega⟩
end Go.Proofs.YtmgnmnogiajlgaaF
end

section
/- Counts: keys that rise; packets and bytes of keys. -/
set_option maxRecDepth 8192
set_option maxHeartbeats 2000000
namespace Go.Proofs.YtmgnmnogiajlgaaF
open Go Go.Proofs.Vm Go.Proofs.Vm.Fld

theorem sbin_geq {P : Program} {H : Hp} {t : TypeId} {x y : Operand} {u v : ByteArray} : vbin P H .geq t x y (vS u) (vS v) = qa (vB (!(Op.bytesLess u.toList v.toList))) := by
  simp [vbin, vbin0, neSl, isNils, isPtr, isNilp, AV.sc, Cell.sc, eqGuard, binOp, Op.stringOp, ofPv, one?, Value.oneCell']
/-- Do keys rise, and are they such? -/
def keyOk (keys : List ByteArray) (i : Nat) : Bool := decide ((keys.getD i ByteArray.empty).size = 37) && (decide (i = 0) || ltS (keys.getD (i - 1) ByteArray.empty) (keys.getD i ByteArray.empty))
def keysOk (keys : List ByteArray) : Bool := (List.range keys.length).all (keyOk keys)
theorem keysOk_iff {keys : List ByteArray} : keysOk keys = true ↔ ∀ i, i < keys.length → keyOk keys i = true := by
  unfold keysOk
  rw [List.all_eq_true]
  exact ⟨fun h i hi => h i (List.mem_range.2 hi), fun h i hi => h i (List.mem_range.1 hi)⟩
abbrev Ct := ByteArray × Int × Int
def cCt (c : Ct) : List CV := [.v (.string c.1), .v (.int .i64 c.2.1), .v (.int .i64 c.2.2)]
def cCts (l : List Ct) : CV := .arr (l.map cCt)
def ctsOf (keys : List ByteArray) (a b : List Int) : List Ct := (List.range keys.length).map fun i => (keys.getD i ByteArray.empty, at0 a i, at0 b i)
def bigA (n : Nat) (a b : List Int) : Bool := (List.range n).any fun i => decide (1099511627776 < at0 a i) || decide (1099511627776 < at0 b i)
def solR (m : List (List Int)) (b : List Int) (n : Nat) : Int × List Int := solF PP invF ((wideR m b).map redR) n
/-- The counts of keys: an error, or the counts. -/
def countsF (R : Rad) (keys : List ByteArray) : Int × List Ct :=
  if rOk R = false then (1, []) else if keysOk keys = false then (1, []) else if 32 < R.rows.length * (R.rows.headD []).length ∨ 32 < keys.length then (4, []) else
  if (solR (eqAll R keys) (rhs R pkF) keys.length).1 ≠ 0 then ((solR (eqAll R keys) (rhs R pkF) keys.length).1, []) else
  if (solR (eqAll R keys) (rhs R byF) keys.length).1 ≠ 0 then ((solR (eqAll R keys) (rhs R byF) keys.length).1, []) else
  if bigA keys.length (solR (eqAll R keys) (rhs R pkF) keys.length).2 (solR (eqAll R keys) (rhs R byF) keys.length).2 = true then (3, []) else
  (0, ctsOf keys (solR (eqAll R keys) (rhs R pkF) keys.length).2 (solR (eqAll R keys) (rhs R byF) keys.length).2)
def countsA (r : Int × List Ct) : CA := .tup [(false, [cCts r.2]), (false, [.v (.int .i64 r.1)])]
theorem jn_wrong {R : Rad} (hs : Seeds R) (hl : Lens R) : TV.pu 37 [.agg (cRad R)] = some (cB (!rOk R)) := by
  refine run37 (by simp) ?_
  have hR := rd_Right hs hl
  simp only [cRad, cRws, cRw] at hR
  simp -implicitDefEqProofs [Try.f37, cRad, cRws, cRw, vmove, isNil, hR]
theorem keyOk_hit {keys : List ByteArray} {i : Nat} (hi : i < keys.length) (h : keyOk keys i = false) : keysOk keys = false := by
  cases e : keysOk keys with
  | false => rfl
  | true => rw [keysOk_iff.1 e i hi] at h; cases h
theorem ap_mod {α : Type} {f : α → α} : ∀ (H : List α) (L : List α) (j : Nat), (H ++ L).modify (H.length + j) f = H ++ L.modify j f
  | [], L, j => by simp
  | x :: H, L, j => by
    have := ap_mod (f := f) H L j
    show (x :: (H ++ L)).modify (H.length + 1 + j) f = x :: (H ++ L.modify j f)
    rw [show H.length + 1 + j = (H.length + j) + 1 by omega, List.modify_succ_cons, this]
theorem mk_row0 {nid n : Nat} (h : n ≤ 64) : vmakeSlice Try.prog false nid 112 (vI .i64 n) (vI .i64 n) = some (.one (.sl nid 0 n n), [rowE (List.replicate n 0)], []) := by
  rw [vmakeSlice_eq es112 el22, if_pos ⟨by omega, rfl, by simp [small]; omega, by omega⟩]
  simp [rowE, cU]
theorem mixR_same {a b : List Int} {j : Nat} (h : ∀ (h1 : j < a.length), at0 b j = a[j]) : mixR a b (j + 1) = mixR a b j := by
  apply List.ext_getElem (by simp [mixR])
  intro i h1 h2
  have hi : i < a.length := by simpa [mixR] using h2
  simp only [mixR, List.getElem_mapIdx]
  by_cases c : i < j
  · rw [if_pos c, if_pos (by omega)]
  · by_cases e : i = j
    · subst e
      rw [if_pos (by omega), if_neg c]
      exact h hi
    · rw [if_neg c, if_neg (by omega)]
theorem eqOf_succ (R : Rad) (keys : List ByteArray) (i p : Nat) : eqOf R keys i (p + 1) = eqOf R keys i p ++ [eqRow R keys i (R.rows.getD i []).length p] := by
  unfold eqOf
  rw [List.range_succ, List.map_append]
  rfl
theorem eqTo_succ {R : Rad} {keys : List ByteArray} {i : Nat} {r : List RCl} (hi : i < R.rows.length) (hr : R.rows[i] = r) : eqTo R keys (i + 1) = eqTo R keys i ++ eqOf R keys i r.length := by
  have hd : R.rows.getD i [] = r := by rw [List.getD_eq_getElem?_getD, List.getElem?_eq_getElem hi, hr]; rfl
  unfold eqTo
  rw [List.range_succ, List.map_append, List.flatten_append, List.map_singleton, List.flatten_singleton, hd]
theorem rhsTo_succ {R : Rad} {f : RCl → Int} {i : Nat} {r : List RCl} (hi : i < R.rows.length) (hr : R.rows[i] = r) : rhsTo R f (i + 1) = rhsTo R f i ++ r.map f := by
  unfold rhsTo
  rw [List.take_add_one, List.getElem?_eq_getElem hi, hr, Option.toList_some, List.flatten_append, List.map_append, List.flatten_singleton]
theorem eqTo_len {R : Rad} {keys : List ByteArray} {n : Nat} (hn : ∀ x ∈ R.rows, x.length = n) : ∀ i, i ≤ R.rows.length → (eqTo R keys i).length = i * n
  | 0, _ => by simp [eqTo]
  | i + 1, h => by
    have hi : i < R.rows.length := by omega
    rw [eqTo_succ hi rfl, List.length_append, eqTo_len hn i (by omega), hn _ (List.getElem_mem hi), Nat.add_mul, Nat.one_mul]
    simp [eqOf]
theorem eqAll_row (R : Rad) (keys : List ByteArray) : ∀ r ∈ eqAll R keys, r.length = keys.length ∧ ∀ n ∈ r, 0 ≤ n ∧ n < 18446744073709551616 := fun r hr => by
  obtain ⟨l, hl, hr⟩ := List.mem_flatten.1 (show r ∈ List.flatten _ from hr)
  obtain ⟨j, _, rfl⟩ := List.mem_map.1 hl
  obtain ⟨p, _, rfl⟩ := List.mem_map.1 (show r ∈ List.map _ _ from hr)
  refine ⟨eqRow_len .., fun n hn => ?_⟩
  obtain ⟨k, _, rfl⟩ := List.mem_map.1 (show n ∈ List.map _ _ from hn)
  split <;> omega
theorem rhs_mem {R : Rad} {f : RCl → Int} (hok : rOk R = true) (hf : ∀ c, wrongB c = false → 0 ≤ f c ∧ f c < 18446744073709551616) : ∀ n ∈ rhs R f, 0 ≤ n ∧ n < 18446744073709551616 := fun n hn => by
  obtain ⟨q1, q2, q3, q4, q5⟩ := rOk_facts hok
  obtain ⟨c, hc, rfl⟩ := List.mem_map.1 (show n ∈ List.map _ _ from hn)
  obtain ⟨l, hl, hc⟩ := List.mem_flatten.1 hc
  exact hf c ((q5 l hl).2.2.2 c hc)
theorem bigA_of {n : Nat} {a b : List Int} {i : Nat} (hi : i < n) (h : 1099511627776 < at0 a i ∨ 1099511627776 < at0 b i) : bigA n a b = true := by
  unfold bigA
  rw [List.any_eq_true]
  exact ⟨i, List.mem_range.2 hi, by simpa using h⟩
theorem solR_told {m : List (List Int)} {b : List Int} {n : Nat} (hw : ∀ r ∈ m, r.length = n) (_hl : b.length = m.length) : Fld.Told PP ((wideR m b).map redR) n (solR m b n) := by
  refine sol_told inv_ok (fun r hr => ?_) (redR_at _)
  obtain ⟨x, hx, rfl⟩ := List.mem_map.1 hr
  obtain ⟨j, h1, h2, rfl⟩ := wide_mem hx
  simp [redR, hw _ (List.getElem_mem h1)]
theorem jn_Counts {R : Rad} {keys : List ByteArray} (hs : Seeds R) (hl : Lens R) (hk : keys.length < 4611686018427387904) : TV.pu 27 [.agg (cRad R), .one (cSs keys)] = some (countsA (countsF R keys)) := by
  refine run27 (by simp) ?_
  have hwr := jn_wrong hs hl
  simp only [cRad, cRws, cRw] at hwr
  obtain ⟨res, hres⟩ : ∃ res, countsF R keys = res := ⟨_, rfl⟩
  rw [hres]
  cases hok : rOk R with
  | false =>
    rw [hok] at hwr
    rw [countsF, if_pos hok] at hres
    subst hres
    simp -implicitDefEqProofs [Try.f27, cRad, cRws, cRw, cSs, vmove, isNil, hwr, countsA, cCts]
  | true =>
  rw [hok] at hwr
  rw [countsF, if_neg (by rw [hok]; decide)] at hres
  simp -implicitDefEqProofs [Try.f27, cRad, cRws, cRw, cSs, vmove, isNil, hwr]
  obtain ⟨I, hI⟩ : ∃ I : Nat → St → Prop, ∀ k s', I k s' ↔ (∃ e i E1 L, s' = ⟨e, .opn [(cRad R).map .c] false :: E1 :: L⟩ ∧ e 1 = .one (.c (cSs keys)) ∧ e 2 = .one (.ptr ⟨0, 0, 0, 1⟩) ∧ e 26 = .one (.c (cSs keys)) ∧ e 27 = vI .i64 keys.length ∧ e 28 = vI .i64 (i : Nat) ∧ (i + k = keys.length) ∧ (L = []) ∧ (∀ j, j < i → keyOk keys j = true)) := ⟨_, fun _ _ => Iff.rfl⟩
  refine wpL_ind I ?_ keys.length _ ((hI _ _).2 ⟨_, 0, _, _, (by first | rfl | (simp [cRad, cRws, cRw, cSs]; done) | (simp [cRad, cRws, cRw, cSs]; rfl) | (simp [cRad, cRws, cRw, cSs]; and_intros <;> rfl)), by simp [cSs], by simp, by simp [cSs], by simp, by simp, by omega, rfl, fun j hj => by omega⟩)
  intro k stI hstI
  obtain ⟨e, i, E1, L, rfl, e1, e2, e26, e27, e28, hi, hL, hno⟩ := (hI _ _).1 hstI
  subst hL
  by_cases c : i < keys.length
  · have c' : (i : Int) < keys.length := by omega
    have w_i : IntKind.i64.wrap ((i : Int) + 1) = ((i + 1 : Nat) : Int) := by rw [w64_id (by omega) (by omega)]; omega
    obtain ⟨x, hx⟩ : ∃ x, keys[i] = x := ⟨_, rfl⟩
    have hxi : keys[i]? = some x := by rw [List.getElem?_eq_getElem c, hx]
    have hg : keys.getD i ByteArray.empty = x := by rw [List.getD_eq_getElem?_getD, hxi]; rfl
    have hbad : keyOk keys i = false → res = (1, []) := fun h => by rw [if_pos (keyOk_hit c h)] at hres; exact hres.symm
    have hgood : keyOk keys i = true → ∀ j, j < i + 1 → keyOk keys j = true := fun h j hj => by
      by_cases e : j = i
      · rw [e]; exact h
      · exact hno j (by omega)
    unfold keyOk at hbad hgood
    rw [hg] at hbad hgood
    by_cases h37 : x.size = 37
    · have h37' : (x.size : Int) = 37 := by omega
      by_cases i0 : i = 0
      · have i1 : ¬ 0 < i := by omega
        simp [e2, e26, e27, e28, c', cSs, cStr, hxi, h37', i1, vmove, isNil]
        exact ⟨(k - 1), by omega, (hI _ _).2 ⟨_, i + 1, _, _, (by first | rfl | (simp [e1, e2, e26, e27, cRad, cRws, cRw, cSs, w_i]; done) | (simp [e1, e2, e26, e27, cRad, cRws, cRw, cSs, w_i]; rfl) | (simp [e1, e2, e26, e27, cRad, cRws, cRw, cSs, w_i]; and_intros <;> rfl)), by simp [e1, cSs, w_i], by simp [e2, w_i], by simp [e26, cSs, w_i], by simp [e27, w_i], by simp [w_i], by omega, rfl, hgood (by simp [h37, i0])⟩⟩
      · have i1 : 0 < i := by omega
        have wi : IntKind.i64.wrap ((i : Int) - 1) = ((i - 1 : Nat) : Int) := by rw [w64_id (by omega) (by omega)]; omega
        obtain ⟨y, hy⟩ : ∃ y, keys[i - 1]'(by omega) = y := ⟨_, rfl⟩
        have hyi : keys[i - 1]? = some y := by rw [List.getElem?_eq_getElem (by omega), hy]
        have hgy : keys.getD (i - 1) ByteArray.empty = y := by rw [List.getD_eq_getElem?_getD, hyi]; rfl
        rw [hgy] at hbad hgood
        have hq : Op.bytesLess y.toList x.toList = ltS y x := rfl
        have i1' : (0 : Int) ≤ ((i - 1 : Nat) : Int) := by omega
        cases hlt : ltS y x with
        | true =>
          rw [hlt] at hq
          simp [e1, e2, e26, e27, e28, c', cSs, cStr, hxi, hyi, h37', i1, i1', wi, sbin_geq, hq, vmove, isNil]
          exact ⟨(k - 1), by omega, (hI _ _).2 ⟨_, i + 1, _, _, (by first | rfl | (simp [e1, e2, e26, e27, cRad, cRws, cRw, cSs, w_i]; done) | (simp [e1, e2, e26, e27, cRad, cRws, cRw, cSs, w_i]; rfl) | (simp [e1, e2, e26, e27, cRad, cRws, cRw, cSs, w_i]; and_intros <;> rfl)), by simp [e1, cSs, w_i], by simp [e2, w_i], by simp [e26, cSs, w_i], by simp [e27, w_i], by simp [w_i], by omega, rfl, hgood (by simp [h37, hlt])⟩⟩
        | false =>
          rw [hlt] at hq
          have := hbad (by simp [hlt, i0])
          subst this
          simp [e1, e2, e26, e27, e28, c', cSs, cStr, hxi, hyi, h37', i1, i1', wi, sbin_geq, hq, vmove, isNil, countsA, cCts]
    · have h37' : ¬ (x.size : Int) = 37 := by omega
      have := hbad (by simp [h37])
      subst this
      simp [e2, e26, e27, e28, c', cSs, cStr, hxi, h37', vmove, isNil, countsA, cCts]
  · have c' : ¬ (i : Int) < keys.length := by omega
    have hi' : i = keys.length := by omega
    subst hi'
    have hko : keysOk keys = true := keysOk_iff.2 hno
    rw [if_neg (by rw [hko]; decide)] at hres
    obtain ⟨q1, q2, q3, q4, q5⟩ := rOk_facts hok
    obtain ⟨r0, t0, hrt⟩ : ∃ r0 t0, R.rows = r0 :: t0 := by cases h : R.rows with | nil => rw [h] at q3; simp at q3 | cons a b => exact ⟨a, b, rfl⟩
    have hd0 : R.rows.headD [] = r0 := by rw [hrt]; rfl
    have hr0 : R.rows[0]? = some r0 := by rw [hrt]; rfl
    have q0 := q5 r0 (by rw [hrt]; exact List.mem_cons_self)
    have hn : ∀ x ∈ R.rows, x.length = r0.length := fun x hx => by rw [(q5 x hx).2.2.1, hd0]
    rw [hd0] at hres
    have hml : R.rows.length * r0.length ≤ 7 * 256 := Nat.mul_le_mul q4 q0.2.1
    obtain ⟨pr, hpr⟩ : ∃ pr, R.rows.length * r0.length = pr := ⟨_, rfl⟩
    have hmul : (R.rows.length : Int) * (r0.length : Int) = (pr : Int) := by rw [← hpr]; simp
    have hw9 : IntKind.i64.wrap ((R.rows.length : Int) * (r0.length : Int)) = (pr : Int) := by rw [hmul, w64_id (by omega) (by omega)]
    rw [hpr] at hres hml
    by_cases hbig : 32 < pr
    · rw [if_pos (.inl hbig)] at hres
      subst hres
      have hbig' : 32 < (pr : Int) := by omega
      simp -implicitDefEqProofs [e2, e27, e28, c', cRad, cRws, cRw, hr0, hw9, hbig', vmove, isNil, countsA, cCts]
    by_cases hbk : 32 < keys.length
    · rw [if_pos (.inr hbk)] at hres
      subst hres
      have hbig' : ¬ 32 < (pr : Int) := by omega
      have hbk' : 32 < (keys.length : Int) := by omega
      simp -implicitDefEqProofs [e1, e2, e27, e28, c', cRad, cRws, cRw, cSs, hr0, hw9, hbig', hbk', vmove, isNil, countsA, cCts]
    rw [if_neg (by omega)] at hres
    have hbig' : ¬ 32 < (pr : Int) := by omega
    have hbk' : ¬ 32 < (keys.length : Int) := by omega
    simp -implicitDefEqProofs [e1, e2, e27, e28, c', cRad, cRws, cRw, cSs, hr0, hw9, hbig', hbk', vmove, isNil]
    obtain ⟨J, hJ⟩ : ∃ J : Nat → St → Prop, ∀ k1 s', J k1 s' ↔ (∃ e i A B C E1 L, s' = ⟨e, .opn [(cRad R).map .c] false :: E1 :: .clo (A.map fun r => [cUr r]) false :: .clo (B.map cU) false :: .clo (C.map cU) false :: L⟩ ∧ e 1 = .one (.c (cSs keys)) ∧ e 2 = .one (.ptr ⟨0, 0, 0, 1⟩) ∧ e 8 = .one (.sl 2 0 A.length A.length) ∧ e 9 = .one (.sl 3 0 A.length A.length) ∧ e 10 = .one (.sl 4 0 A.length A.length) ∧ e 66 = .one (.c (cRws R.rows)) ∧ e 67 = vI .i64 R.rows.length ∧ e 68 = vI .i64 (i : Nat) ∧ (i + k1 = R.rows.length) ∧ (A = eqTo R keys i) ∧ (B = rhsTo R pkF i) ∧ (C = rhsTo R byF i) ∧ (B.length = A.length) ∧ (C.length = A.length) ∧ (A.length ≤ 256 * i)) := ⟨_, fun _ _ => Iff.rfl⟩
    refine wpL_ind J ?_ R.rows.length _ ((hJ _ _).2 ⟨_, 0, [], [], [], _, [], (by first | rfl | (simp [e1, e2, cRad, cRws, cRw, cSs, cStr, cUr]; done) | (simp [e1, e2, cRad, cRws, cRw, cSs, cStr, cUr]; rfl) | (simp [e1, e2, cRad, cRws, cRw, cSs, cStr, cUr]; and_intros <;> rfl)), by simp [e1, cSs], by simp [e2], by simp, by simp, by simp, by simp [cRws, cRw], by simp, by simp, by omega, rfl, rfl, rfl, rfl, rfl, by simp⟩)
    clear e1 e2 e26 e27 e28
    intro k1 stJ hstJ
    obtain ⟨e, i, A, B, C, E1, L, rfl, e1, e2, e8, e9, e10, e66, e67, e68, hi, hA, hB, hC, hlB, hlC, hAl⟩ := (hJ _ _).1 hstJ
    by_cases ci : i < R.rows.length
    · have ci' : (i : Int) < R.rows.length := by omega
      obtain ⟨r, hr⟩ : ∃ r, R.rows[i] = r := ⟨_, rfl⟩
      have hri : R.rows[i]? = some r := by rw [List.getElem?_eq_getElem ci, hr]
      have hgr : (R.rows.getD i []).length = r.length := by rw [List.getD_eq_getElem?_getD, hri]; rfl
      have hrm : r ∈ R.rows := hr ▸ List.getElem_mem ci
      obtain ⟨g1, g2, g3, g4⟩ := q5 r hrm
      have w_i : IntKind.i64.wrap ((i : Int) + 1) = ((i + 1 : Nat) : Int) := by rw [w64_id (by omega) (by omega)]; omega
      simp -implicitDefEqProofs [e66, e67, e68, ci', hri, cRad, cRws, cRw, vmove, isNil]
      obtain ⟨K, hK⟩ : ∃ K : Nat → St → Prop, ∀ k2 s', K k2 s' ↔ (∃ e p A B C E1 L, s' = ⟨e, .opn [(cRad R).map .c] false :: E1 :: .clo (A.map fun r => [cUr r]) false :: .clo (B.map cU) false :: .clo (C.map cU) false :: L⟩ ∧ e 1 = .one (.c (cSs keys)) ∧ e 2 = .one (.ptr ⟨0, 0, 0, 1⟩) ∧ e 8 = .one (.sl 2 0 A.length A.length) ∧ e 9 = .one (.sl 3 0 A.length A.length) ∧ e 10 = .one (.sl 4 0 A.length A.length) ∧ e 66 = .one (.c (cRws R.rows)) ∧ e 67 = vI .i64 R.rows.length ∧ e 68 = vI .i64 (i : Nat) ∧ e 11 = vI .i64 (i : Nat) ∧ e 73 = .one (.c (cRw r)) ∧ e 74 = vI .i64 r.length ∧ e 75 = vI .i64 (p : Nat) ∧ (p + k2 = r.length) ∧ (A = eqTo R keys i ++ eqOf R keys i p) ∧ (B = rhsTo R pkF i ++ (r.take p).map pkF) ∧ (C = rhsTo R byF i ++ (r.take p).map byF) ∧ (B.length = A.length) ∧ (C.length = A.length) ∧ (A.length ≤ 256 * i + p)) := ⟨_, fun _ _ => Iff.rfl⟩
      refine wpL_ind K ?_ r.length _ ((hK _ _).2 ⟨_, 0, A, B, C, _, L, (by first | rfl | (simp [e1, e2, e8, e9, e10, e66, e67, e68, cRad, cRws, cRw, cSs, cUr]; done) | (simp [e1, e2, e8, e9, e10, e66, e67, e68, cRad, cRws, cRw, cSs, cUr]; rfl) | (simp [e1, e2, e8, e9, e10, e66, e67, e68, cRad, cRws, cRw, cSs, cUr]; and_intros <;> rfl)), by simp [e1, cSs], by simp [e2], by simp [e8], by simp [e9], by simp [e10], by simp [e66, cRws, cRw], by simp [e67], by simp [e68], by simp, by simp [cRw], by simp, by simp, by omega, by rw [hA]; simp [eqOf], by rw [hB]; simp, by rw [hC]; simp, hlB, hlC, by omega⟩)
      clear e1 e2 e8 e9 e10 e66 e67 e68 hA hB hC hlB hlC hAl
      intro k2 stK hstK
      obtain ⟨e, p, A, B, C, E1, L, rfl, e1, e2, e8, e9, e10, e66, e67, e68, e11, e73, e74, e75, hp, hA, hB, hC, hlB, hlC, hAl⟩ := (hK _ _).1 hstK
      by_cases cp : p < r.length
      · have cp' : (p : Int) < r.length := by omega
        obtain ⟨cx, cf, cpk, cby, hc⟩ : ∃ cx cf cpk cby, r[p] = (cx, cf, cpk, cby) := ⟨_, _, _, _, rfl⟩
        have hrp : r[p]? = some (cx, cf, cpk, cby) := by rw [List.getElem?_eq_getElem cp, hc]
        have hcw := (wrongB_iff _).1 (g4 (cx, cf, cpk, cby) (hc ▸ List.getElem_mem cp))
        have hms := fun nid => mk_row0 (nid := nid) (n := keys.length) (by omega)
        have w_p : IntKind.i64.wrap ((p : Int) + 1) = ((p + 1 : Nat) : Int) := by rw [w64_id (by omega) (by omega)]; omega
        simp -implicitDefEqProofs [e1, e73, e74, e75, cp', hrp, hms, cRad, cRws, cRw, cSs, cCl, vmove, isNil, vstore, cellsOf?, Ent.wrO, wr]
        obtain ⟨er, her⟩ : ∃ er, eqRow R keys i r.length p = er := ⟨_, rfl⟩
        have hel : er.length = keys.length := by rw [← her]; exact eqRow_len ..
        have hea : ∀ q (h : q < keys.length), at0 er q = if rplc R keys[q] i r.length = (p : Int) then 1 else 0 := fun q h => by
          rw [← her, at0_get (by rw [eqRow_len]; exact h)]; simp [eqRow]
        obtain ⟨Q, hQ⟩ : ∃ Q : Nat → St → Prop, ∀ k3 s', Q k3 s' ↔ (∃ e q E1 L, s' = ⟨e, .opn [(cRad R).map .c] false :: E1 :: .clo (A.map fun r => [cUr r]) false :: .clo (B.map cU) false :: .clo (C.map cU) false :: (L ++ [.opn [(cCl (cx, cf, cpk, cby)).map .c] false, rowE (mixR (List.replicate keys.length 0) er q)])⟩ ∧ e 1 = .one (.c (cSs keys)) ∧ e 2 = .one (.ptr ⟨0, 0, 0, 1⟩) ∧ e 8 = .one (.sl 2 0 A.length A.length) ∧ e 9 = .one (.sl 3 0 A.length A.length) ∧ e 10 = .one (.sl 4 0 A.length A.length) ∧ e 66 = .one (.c (cRws R.rows)) ∧ e 67 = vI .i64 R.rows.length ∧ e 68 = vI .i64 (i : Nat) ∧ e 11 = vI .i64 (i : Nat) ∧ e 73 = .one (.c (cRw r)) ∧ e 74 = vI .i64 r.length ∧ e 75 = vI .i64 (p : Nat) ∧ e 13 = vI .i64 (p : Nat) ∧ e 14 = .one (.ptr ⟨L.length + 1 + 1 + 1 + 1 + 1, 0, 0, 1⟩) ∧ e 15 = .one (.sl (L.length + 1 + 1 + 1 + 1 + 1 + 1) 0 keys.length keys.length) ∧ e 83 = .one (.c (cSs keys)) ∧ e 84 = vI .i64 keys.length ∧ e 85 = vI .i64 (q : Nat) ∧ (q + k3 = keys.length)) := ⟨_, fun _ _ => Iff.rfl⟩
        refine wpL_ind Q ?_ keys.length _ ((hQ _ _).2 ⟨_, 0, _, L, (by first | rfl | (simp [cRad, cRws, cRw, cUr, cCl, mixR_zero]; done) | (simp [cRad, cRws, cRw, cUr, cCl, mixR_zero]; rfl) | (simp [cRad, cRws, cRw, cUr, cCl, mixR_zero]; and_intros <;> rfl)), by simp [e1, cSs], by simp [e2], by simp [e8], by simp [e9], by simp [e10], by simp [e66, cRws, cRw], by simp [e67], by simp [e68], by simp [e11], by simp [e73, cRw], by simp [e74], by simp [e75], by simp, by simp, by simp, by simp [cSs], by simp, by simp, by omega⟩)
        clear e1 e2 e8 e9 e10 e66 e67 e68 e11 e73 e74 e75
        intro k3 stQ hstQ
        obtain ⟨e, q, E1, L, rfl, e1, e2, e8, e9, e10, e66, e67, e68, e11, e73, e74, e75, e13, e14, e15, e83, e84, e85, hq⟩ := (hQ _ _).1 hstQ
        by_cases cq : q < keys.length
        · have cq' : (q : Int) < keys.length := by omega
          obtain ⟨x, hx⟩ : ∃ x, keys[q] = x := ⟨_, rfl⟩
          have hxq : keys[q]? = some x := by rw [List.getElem?_eq_getElem cq, hx]
          have hk37 : x.size = 37 := by
            have := hno q cq
            unfold keyOk at this
            rw [List.getD_eq_getElem?_getD, hxq] at this
            simp only [Option.getD_some, Bool.and_eq_true, decide_eq_true_eq] at this
            exact this.1
          have hpl := rd_Place (R := R) (key := x) (i := i) hs hl hok ci hk37
          simp only [hr] at hpl
          have heq := hea q cq
          rw [hx] at heq
          obtain ⟨pl, hpl2⟩ : ∃ pl, rplc R x i r.length = pl := ⟨_, rfl⟩
          rw [hpl2] at hpl heq
          have w_q : IntKind.i64.wrap ((q : Int) + 1) = ((q + 1 : Nat) : Int) := by rw [w64_id (by omega) (by omega)]; omega
          simp only [cRad, cRws, cRw] at hpl
          have hml2 : (mixR (List.replicate keys.length 0) er q).length = keys.length := by simp [mixR_len]
          by_cases hh : pl = (p : Int)
          · subst hh
            rw [if_pos rfl] at heq
            have hset : (mixR (List.replicate keys.length 0) er q).set q 1 = mixR (List.replicate keys.length 0) er (q + 1) := by
              have h1 : q < er.length := by omega
              rw [← mixR_set (by simpa using cq) (by simp [hel])]
              rw [at0_get h1] at heq
              rw [heq]
            have hst : ∀ X0 X1 X2 X3 X4 X5 : Ent, vstore Try.prog false (X0 :: X1 :: X2 :: X3 :: X4 :: (L ++ [X5, rowE (mixR (List.replicate keys.length 0) er q)])) 22 (.one (.ptr ⟨L.length + 1 + 1 + 1 + 1 + 1 + 1, q, 0, keys.length⟩)) (vI .u64 1) = some (X0 :: X1 :: X2 :: X3 :: X4 :: (L ++ [X5, rowE (mixR (List.replicate keys.length 0) er (q + 1))])) := fun X0 X1 X2 X3 X4 X5 => by
              rw [st_row (r := mixR (List.replicate keys.length 0) er q) (by simp) (by rw [hml2]; exact cq) hml2, hset]
              simp
            simp only [rowE] at hst
            simp -implicitDefEqProofs [e2, e11, e13, e15, e83, e84, e85, cq', hxq, hpl, cRad, cRws, cRw, cSs, cStr, cCl, vmove, isNil, rowE, hml2, hst]
            refine ⟨cq, ⟨_, mixR_get (by simpa using cq) (Nat.le_refl _), rfl⟩, ?_⟩
            exact ⟨(k3 - 1), by omega, (hQ _ _).2 ⟨_, q + 1, _, L, (by first | rfl | (simp [e1, e2, e8, e9, e10, e66, e67, e68, e11, e73, e74, e75, e13, e14, e15, e83, e84, cRad, cRws, cRw, cSs, cUr, cCl, cStr, w_q, rowE]; done) | (simp [e1, e2, e8, e9, e10, e66, e67, e68, e11, e73, e74, e75, e13, e14, e15, e83, e84, cRad, cRws, cRw, cSs, cUr, cCl, cStr, w_q, rowE]; rfl) | (simp [e1, e2, e8, e9, e10, e66, e67, e68, e11, e73, e74, e75, e13, e14, e15, e83, e84, cRad, cRws, cRw, cSs, cUr, cCl, cStr, w_q, rowE]; and_intros <;> rfl)), by simp [e1, cSs, w_q], by simp [e2, w_q], by simp [e8, w_q], by simp [e9, w_q], by simp [e10, w_q], by simp [e66, cRws, cRw, w_q], by simp [e67, w_q], by simp [e68, w_q], by simp [e11, w_q], by simp [e73, cRw, w_q], by simp [e74, w_q], by simp [e75, w_q], by simp [e13, w_q], by simp [e14, w_q], by simp [e15, w_q], by simp [e83, cSs, w_q], by simp [e84, w_q], by simp [w_q], by omega⟩⟩
          · rw [if_neg hh] at heq
            simp -implicitDefEqProofs [e2, e11, e13, e83, e84, e85, cq', hxq, hpl, hh, cRad, cRws, cRw, cSs, cStr, cCl, vmove, isNil]
            exact ⟨(k3 - 1), by omega, (hQ _ _).2 ⟨_, q + 1, _, L, (by first | rfl | (simp [cRad, cRws, cRw, cUr, cCl, w_q, mixR_same (a := List.replicate keys.length 0) (b := er) (j := q) (fun h => by rw [heq]; simp)]; done) | (simp [cRad, cRws, cRw, cUr, cCl, w_q, mixR_same (a := List.replicate keys.length 0) (b := er) (j := q) (fun h => by rw [heq]; simp)]; rfl) | (simp [cRad, cRws, cRw, cUr, cCl, w_q, mixR_same (a := List.replicate keys.length 0) (b := er) (j := q) (fun h => by rw [heq]; simp)]; and_intros <;> rfl)), by simp [e1, cSs], by simp [e2], by simp [e8], by simp [e9], by simp [e10], by simp [e66, cRws, cRw], by simp [e67], by simp [e68], by simp [e11], by simp [e73, cRw], by simp [e74], by simp [e75], by simp [e13], by simp [e14], by simp [e15], by simp [e83, cSs], by simp [e84], by simp, by omega⟩⟩
        · have cq' : ¬ (q : Int) < keys.length := by omega
          rw [mixR_all (a := List.replicate keys.length 0) (b := er) (j := q) (by simp [hel]) (by simp; omega)]
          have hwp : IntKind.u64.wrap cpk = cpk := u64_id (by have := hcw.2.2.2.1; dsimp only at this; omega) (by have := hcw.2.2.2.2.1; dsimp only at this; omega)
          have hwb : IntKind.u64.wrap cby = cby := u64_id (by have := hcw.2.2.2.2.2.1; dsimp only at this; omega) (by have := hcw.2.2.2.2.2.2; dsimp only at this; omega)
          have b1 : 24 * (A.length + 1) ≤ 140737488355328 := by omega
          have b2 : A.length + 1 ≤ 4611686018427387904 := by omega
          have b3 : 8 * (A.length + 1) ≤ 140737488355328 := by omega
          have hal1 : AllLen (A.map fun r => [cUr r]) 1 := by intro x hx; obtain ⟨y, _, rfl⟩ := List.mem_map.1 hx; rfl
          have hal2 : AllLen (B.map cU) 1 := by intro x hx; obtain ⟨y, _, rfl⟩ := List.mem_map.1 hx; rfl
          have hal3 : AllLen (C.map cU) 1 := by intro x hx; obtain ⟨y, _, rfl⟩ := List.mem_map.1 hx; rfl
          have hte : List.take keys.length (er.map cU) = er.map cU := List.take_of_length_le (by simp [hel])
          simp -implicitDefEqProofs [e8, e9, e10, e75, e14, e15, e84, e85, cq', cRad, cRws, cRw, cCl, vmove, isNil, rowE, hel, hte, vbuildSlice_eq es111 el112, vappend_sp es111 es111 el112, cellsOf?, fzParts, setAll, rchParts, rch, elemsOf, b1, b2, b3, hal1, hal2, hal3, hlB, hlC, hwp, hwb, frzAll, Ent.frz, ap_mod, vbuildC_eq es112 el22, vappend_sp es112 es112 el22]
          have htp : r.take (p + 1) = r.take p ++ [(cx, cf, cpk, cby)] := by rw [List.take_add_one, hrp]; rfl
          have hA2 : A ++ [er] = eqTo R keys i ++ eqOf R keys i (p + 1) := by
            rw [hA, eqOf_succ, hgr, her, List.append_assoc]
          have hB2 : B ++ [cpk] = rhsTo R pkF i ++ (r.take (p + 1)).map pkF := by rw [hB, htp, List.map_append, List.append_assoc]; rfl
          have hC2 : C ++ [cby] = rhsTo R byF i ++ (r.take (p + 1)).map byF := by rw [hC, htp, List.map_append, List.append_assoc]; rfl
          exact ⟨(k2 - 1), by omega, (hK _ _).2 ⟨_, p + 1, A ++ [er], B ++ [cpk], C ++ [cby], _, L ++ [_, _, _], (by first | rfl | (simp [cRad, cRws, cRw, cUr, cU, w_p]; done) | (simp [cRad, cRws, cRw, cUr, cU, w_p]; rfl) | (simp [cRad, cRws, cRw, cUr, cU, w_p]; and_intros <;> rfl)), by simp [e1, cSs], by simp [e2], by simp, by simp, by simp, by simp [e66, cRws, cRw], by simp [e67], by simp [e68], by simp [e11], by simp [e73, cRw], by simp [e74], by simp, by omega, hA2, hB2, hC2, by simp [hlB], by simp [hlC], by simp; omega⟩⟩
      · have cp' : ¬ (p : Int) < r.length := by omega
        have hp' : p = r.length := by omega
        subst hp'
        rw [← eqTo_succ ci hr] at hA
        rw [List.take_length, ← rhsTo_succ ci hr] at hB hC
        simp -implicitDefEqProofs [e68, e74, e75, cp', cRad, cRws, cRw, vmove, isNil]
        exact ⟨(k1 - 1), by omega, (hJ _ _).2 ⟨_, i + 1, A, B, C, _, L, (by first | rfl | (simp [e1, e2, e8, e9, e10, e66, e67, cRad, cRws, cRw, cSs, cCl, cUr, w_i]; done) | (simp [e1, e2, e8, e9, e10, e66, e67, cRad, cRws, cRw, cSs, cCl, cUr, w_i]; rfl) | (simp [e1, e2, e8, e9, e10, e66, e67, cRad, cRws, cRw, cSs, cCl, cUr, w_i]; and_intros <;> rfl)), by simp [e1, cSs, w_i], by simp [e2, w_i], by simp [e8, w_i], by simp [e9, w_i], by simp [e10, w_i], by simp [e66, cRws, cRw, w_i], by simp [e67, w_i], by simp [w_i], by omega, hA, hB, hC, hlB, hlC, by omega⟩⟩
    · have ci' : ¬ (i : Int) < R.rows.length := by omega
      have hi' : i = R.rows.length := by omega
      subst hi'
      rw [rhs_all] at hB hC
      have hA : A = eqAll R keys := hA
      have hAl2 : A.length = pr := by rw [hA, eqAll, eqTo_len hn _ (Nat.le_refl _), hpr]
      have hpr1 : 1 ≤ pr := by rw [← hpr]; exact Nat.mul_pos q3 q0.1
      have hA0 : A ≠ [] := fun e => by rw [e] at hAl2; simp at hAl2; omega
      have hAm : ∀ r ∈ A, r.length = keys.length ∧ ∀ n ∈ r, 0 ≤ n ∧ n < 18446744073709551616 := by rw [hA]; exact eqAll_row R keys
      have hBm : ∀ n ∈ B, 0 ≤ n ∧ n < 18446744073709551616 := by rw [hB]; exact rhs_mem hok (fun c hc => by have := (wrongB_iff _).1 hc; exact ⟨this.2.2.2.1, by have := this.2.2.2.2.1; show c.2.2.1 < _; omega⟩)
      have hCm : ∀ n ∈ C, 0 ≤ n ∧ n < 18446744073709551616 := by rw [hC]; exact rhs_mem hok (fun c hc => by have := (wrongB_iff _).1 hc; exact ⟨this.2.2.2.2.2.1, by have := this.2.2.2.2.2.2; show c.2.2.2 < _; omega⟩)
      have hS1 := sv_Solve (m := A) (b := B) (cols := keys.length) hA0 (by omega) (fun r hr => (hAm r hr).1) (fun r hr => (hAm r hr).2) hBm hlB (by omega)
      have hS2 := sv_Solve (m := A) (b := C) (cols := keys.length) hA0 (by omega) (fun r hr => (hAm r hr).1) (fun r hr => (hAm r hr).2) hCm hlC (by omega)
      have hT1 := solR_told (m := A) (b := B) (n := keys.length) (fun r hr => (hAm r hr).1) (by omega)
      have hT2 := solR_told (m := A) (b := C) (n := keys.length) (fun r hr => (hAm r hr).1) (by omega)
      rw [← hA, ← hB, ← hC] at hres
      change TV.pu _ _ = some (.tup [(false, [cUr (solR A B keys.length).2]), (false, [.v (.int .i64 (solR A B keys.length).1)])]) at hS1
      change TV.pu _ _ = some (.tup [(false, [cUr (solR A C keys.length).2]), (false, [.v (.int .i64 (solR A C keys.length).1)])]) at hS2
      obtain ⟨s1, x1, hs1⟩ : ∃ s x, solR A B keys.length = (s, x) := ⟨_, _, rfl⟩
      obtain ⟨s2, x2, hs2⟩ : ∃ s x, solR A C keys.length = (s, x) := ⟨_, _, rfl⟩
      rw [hs1] at hS1 hT1 hres
      rw [hs2] at hS2 hT2 hres
      dsimp only at hS1 hS2 hres
      have htA : List.take A.length (A.map fun r => [CV.arr (r.map cU)]) = A.map fun r => [CV.arr (r.map cU)] := List.take_of_length_le (by simp)
      have htB : List.take A.length (B.map cU) = B.map cU := List.take_of_length_le (by simp [hlB])
      have htC : List.take A.length (C.map cU) = C.map cU := List.take_of_length_le (by simp [hlC])
      simp only [cUm, cUr] at hS1 hS2
      clear hA hB hC hn hw9 hmul hml hwr hno
      by_cases hz1 : s1 = 0
      rotate_left
      · rw [if_pos hz1] at hres
        subst hres
        simp -implicitDefEqProofs [e8, e9, e67, e68, ci', cUr, vmove, isNil, rcha, rch, frzAll, Ent.frz, htA, htB, hlB, hS1, hz1, countsA, cCts]
      subst hz1
      rw [if_neg (by simp)] at hres
      by_cases hz2 : s2 = 0
      rotate_left
      · rw [if_pos hz2] at hres
        subst hres
        simp -implicitDefEqProofs [e8, e9, e10, e67, e68, ci', cUr, vmove, isNil, rcha, rch, frzAll, Ent.frz, htA, htB, htC, hlB, hlC, hS1, hS2, hz2, countsA, cCts]
      subst hz2
      rw [if_neg (by simp)] at hres
      obtain ⟨hx1l, hx1b, _⟩ := hT1.one rfl
      obtain ⟨hx2l, hx2b, _⟩ := hT2.one rfl
      dsimp only at hx1l hx1b hx2l hx2b
      simp -implicitDefEqProofs [e1, e8, e9, e10, e67, e68, ci', cUr, cSs, vmove, isNil, rcha, rch, frzAll, Ent.frz, htA, htB, htC, hlB, hlC, hS1, hS2]
      obtain ⟨W, hW⟩ : ∃ W, (ctsOf keys x1 x2).map cCt = W := ⟨_, rfl⟩
      have hWl : W.length = keys.length := by rw [← hW]; simp [ctsOf]
      have hWe : ∀ e ∈ W, e.length = 3 := by rw [← hW]; intro e he; obtain ⟨y, _, rfl⟩ := List.mem_map.1 he; rfl
      obtain ⟨Z, hZ⟩ : ∃ Z : Nat → St → Prop, ∀ k4 s', Z k4 s' ↔ (∃ e G d i, s' = ⟨e, G⟩ ∧ e 18 = .one (.c (cUr x1)) ∧ e 20 = .one (.c (cUr x2)) ∧ e 21 = .one (.sl d 0 i i) ∧ e 136 = .one (.c (cSs keys)) ∧ e 137 = vI .i64 keys.length ∧ e 138 = vI .i64 (i : Nat) ∧ (i + k4 = keys.length) ∧ (G[d]? = some (.clo (W.take i) false)) ∧ (∀ j, j < i → at0 x1 j ≤ 1099511627776 ∧ at0 x2 j ≤ 1099511627776)) := ⟨_, fun _ _ => Iff.rfl⟩
      refine wpL_ind Z ?_ keys.length _ ((hZ _ _).2 ⟨_, _, L.length + 1 + 1 + 1 + 1 + 1, 0, (by first | rfl | (simp [cSs, cUr]; done) | (simp [cSs, cUr]; rfl) | (simp [cSs, cUr]; and_intros <;> rfl)), by simp [cUr], by simp [cUr], by simp, by simp [cSs], by simp, by simp, by omega, by simp, fun j hj => by omega⟩)
      clear e1 e2 e8 e9 e10 e66 e67 e68
      intro k4 stZ hstZ
      obtain ⟨e, G, d, i, rfl, e18, e20, e21, e136, e137, e138, hi, hG, hsm⟩ := (hZ _ _).1 hstZ
      by_cases ck : i < keys.length
      · have ck' : (i : Int) < keys.length := by omega
        obtain ⟨x, hx⟩ : ∃ x, keys[i] = x := ⟨_, rfl⟩
        have hxi : keys[i]? = some x := by rw [List.getElem?_eq_getElem ck, hx]
        have ha1 : x1[i]? = some (at0 x1 i) := by rw [at0_get (by omega), List.getElem?_eq_getElem]
        have ha2 : x2[i]? = some (at0 x2 i) := by rw [at0_get (by omega), List.getElem?_eq_getElem]
        have hb1 := hx1b (at0 x1 i) (List.mem_of_getElem? ha1)
        have hb2 := hx2b (at0 x2 i) (List.mem_of_getElem? ha2)
        have hWi : W[i]? = some (cCt (x, at0 x1 i, at0 x2 i)) := by
          rw [← hW]
          simp [ctsOf, ck, List.getD_eq_getElem?_getD, hx]
        obtain ⟨y1, hy1⟩ : ∃ y, at0 x1 i = y := ⟨_, rfl⟩
        obtain ⟨y2, hy2⟩ : ∃ y, at0 x2 i = y := ⟨_, rfl⟩
        rw [hy1] at ha1 hb1 hWi
        rw [hy2] at ha2 hb2 hWi
        have hdG := (List.getElem?_eq_some_iff.1 hG).1
        have w_i : IntKind.i64.wrap ((i : Int) + 1) = ((i + 1 : Nat) : Int) := by rw [w64_id (by omega) (by omega)]; omega
        by_cases d1 : 1099511627776 < y1
        · rw [if_pos (bigA_of ck (.inl (by rw [hy1]; exact d1)))] at hres
          subst hres
          simp -implicitDefEqProofs [e18, e136, e137, e138, ck', hxi, ha1, d1, cSs, cStr, cUr, cU, vmove, isNil, countsA, cCts]
        by_cases d2 : 1099511627776 < y2
        · rw [if_pos (bigA_of ck (.inr (by rw [hy2]; exact d2)))] at hres
          subst hres
          simp -implicitDefEqProofs [e18, e20, e136, e137, e138, ck', hxi, ha1, ha2, d1, d2, cSs, cStr, cUr, cU, vmove, isNil, countsA, cCts]
        have hw1 : IntKind.i64.wrap y1 = y1 := w64_id (by omega) (by omega)
        have hw2 : IntKind.i64.wrap y2 = y2 := w64_id (by omega) (by omega)
        have ha3 := vappend_eq (P := Try.prog) (H := G ++ [.clo [cCt (x, y1, y2)] false]) (t := 44) (tx := 44) (id := d) (n := i) (l := W.take i) (xs := [cCt (x, y1, y2)]) (x := .one (.sl G.length 0 1 1)) es44 es44 el49
          (by rw [List.getElem?_append_left hdG]; exact hG) (by simp [elemsOf]) (by simp; omega) (by intro e he; exact hWe e (List.mem_of_mem_take he)) (by simp [cCt]) (by simp only [List.length_singleton]; omega) (by simp only [List.length_singleton]; omega)
        have hN3 : W.take i ++ [cCt (x, y1, y2)] = W.take (i + 1) := by
          rw [List.take_add_one, hWi]; rfl
        rw [hN3] at ha3
        obtain ⟨G2, hG2⟩ : ∃ G2, (G ++ [Ent.clo [cCt (x, y1, y2)] false]).set d (.clo (W.take (i + 1)) false) = G2 := ⟨_, rfl⟩
        have hG2d : G2[d]? = some (.clo (W.take (i + 1)) false) := by
          rw [← hG2]; exact set_self (e0 := _) (by rw [List.getElem?_append_left hdG]; exact hG)
        rw [hG2] at ha3
        simp only [cCt, List.length_singleton] at ha3
        have hsm2 : ∀ j, j < i + 1 → at0 x1 j ≤ 1099511627776 ∧ at0 x2 j ≤ 1099511627776 := fun j hj => by
          by_cases e : j = i
          · subst e; rw [hy1, hy2]; omega
          · exact hsm j (by omega)
        simp -implicitDefEqProofs [e18, e20, e21, e136, e137, e138, ck', hxi, ha1, ha2, d1, d2, hw1, hw2, ha3, cSs, cStr, cUr, cU, vmove, isNil, cellsOf?, fzParts, setAll, rchParts, rch, vbuildSlice_eq es44 el49, wr]
        exact ⟨(k4 - 1), by omega, (hZ _ _).2 ⟨_, G2, d, i + 1, (by first | rfl | (simp [e18, e20, e136, e137, w_i, cSs, cStr, cUr, cU]; done) | (simp [e18, e20, e136, e137, w_i, cSs, cStr, cUr, cU]; rfl) | (simp [e18, e20, e136, e137, w_i, cSs, cStr, cUr, cU]; and_intros <;> rfl)), by simp [e18, w_i, cUr], by simp [e20, w_i, cUr], by simp [w_i], by simp [e136, w_i, cSs], by simp [e137, w_i], by simp [w_i], by omega, hG2d, hsm2⟩⟩
      · have ck' : ¬ (i : Int) < keys.length := by omega
        have hi' : i = keys.length := by omega
        subst hi'
        have hbf : ¬ bigA keys.length x1 x2 = true := fun h => by
          unfold bigA at h
          obtain ⟨j, hj, h⟩ := List.any_eq_true.1 h
          have := hsm j (List.mem_range.1 hj)
          simp at h
          omega
        rw [if_neg hbf] at hres
        subst hres
        rw [← hWl, List.take_length] at hG
        have hG' : G[d]? = some (.clo W false) := hG
        have htW : List.take keys.length W = W := List.take_of_length_le (by omega)
        simp -implicitDefEqProofs [e21, e137, e138, ck', hG', hWl, htW, vmove, isNil, countsA, cCts, hW]
end Go.Proofs.YtmgnmnogiajlgaaF
end

section
/- Joint: one round, in the caller's memory. -/
set_option maxRecDepth 8192
set_option maxHeartbeats 2000000
namespace Go.Proofs.YtmgnmnogiajlgaaF
open Go Go.Proofs.Vm

def cRads (l : List Rad) : CV := .arr (l.map cRad)
theorem rads_Clone0 {H : Hp} : TV.S 38 [.one (.c (cRads []))] H = some (.one (.sl H.length 0 0 0), H ++ [.clo [] false]) := by
  refine TT_baseS ?_
  simp only [cfg, strCloTab, cRads, List.map_nil]
  rfl
theorem rads_Clone1 {r : List Rad} {H : Hp} (h0 : r ≠ []) (hl : r.length ≤ 100000) : TV.S 38 [.one (.c (cRads r))] H = some (.one (.sl (H.length + 1) 0 r.length r.length), H ++ [.clo [] false, .clo (r.map cRad) false]) := by
  obtain ⟨x, t, rfl⟩ : ∃ h t, r = h :: t := by cases r with | nil => exact absurd rfl h0 | cons h t => exact ⟨h, t, rfl⟩
  refine run38 rfl (by simp) (by simp) ?_
  have ha := vappend_eq (P := Try.prog) (H := H ++ [.clo [] false, .clo [] false]) (t := 36) (tx := 36) (id := H.length + 1) (n := 0) (l := []) (xs := (x :: t).map cRad) (x := .one (.c (cRads (x :: t)))) es36 es36 el31
    (by simp) rfl rfl (by simp) (by intro e he; obtain ⟨c, -, rfl⟩ := List.mem_map.1 he; rfl) (by simp only [List.length_map]; omega) (by simp only [List.length_map]; omega)
  simp [cRads] at ha
  simp [Try.f38, cRads, vmove, isNil, bin_sln es36, bs_zero es36 el31, ha]
theorem rads_Clone {r : List Rad} {H : Hp} (hl : r.length ≤ 100000) : ∃ K : Hp, (∀ (id : Nat) e, H[id]? = some e → K[id]? = some e) ∧ H.length ≤ K.length ∧ TV.S 38 [.one (.c (cRads r))] H = some (.one (.sl K.length 0 r.length r.length), K ++ [.clo (r.map cRad) false]) := by
  by_cases h : r = []
  · subst h; exact ⟨H, fun _ _ h => h, Nat.le_refl _, rads_Clone0⟩
  · refine ⟨H ++ [.clo [] false], fun id e he => ?_, by simp, ?_⟩
    · rw [List.getElem?_append_left (List.getElem?_eq_some_iff.1 he).1]; exact he
    · rw [rads_Clone1 h hl, List.length_append, List.length_singleton, List.append_assoc]; rfl
def topT (L : List (Nat × Sw)) : List (List Cell) := L.map fun x => [.sl x.1 0 x.2.2.length x.2.2.length]
/-- Switches in memory: radars in one place, what was told in places of their own. -/
structure DH (H : Hp) (a b : Nat) (L : List (Nat × Sw)) : Prop where
  rad : H[a]? = some (.clo (L.map fun x => cRad x.2.1) false)
  top : H[b]? = some (.opn (topT L) false)
  row : ∀ k (h : k < L.length), H[L[k].1]? = some (.clo (L[k].2.2.map cStr) false)
  nd : (a :: b :: L.map (·.1)).Nodup
theorem DH.app {H : Hp} {a b : Nat} {L : List (Nat × Sw)} (h : DH H a b L) (T : Hp) : DH (H ++ T) a b L :=
  ⟨by rw [List.getElem?_append_left (List.getElem?_eq_some_iff.1 h.rad).1]; exact h.rad, by rw [List.getElem?_append_left (List.getElem?_eq_some_iff.1 h.top).1]; exact h.top, fun k hk => by rw [List.getElem?_append_left (List.getElem?_eq_some_iff.1 (h.row k hk)).1]; exact h.row k hk, h.nd⟩
theorem DH.ab {H : Hp} {a b : Nat} {L : List (Nat × Sw)} (h : DH H a b L) : a ≠ b := fun e => (List.nodup_cons.1 h.nd).1 (by rw [e]; exact List.mem_cons_self)
theorem DH.na {H : Hp} {a b : Nat} {L : List (Nat × Sw)} (h : DH H a b L) {k : Nat} (hk : k < L.length) : L[k].1 ≠ a := fun e => (List.nodup_cons.1 h.nd).1 (List.mem_cons_of_mem _ (List.mem_map.2 ⟨L[k], List.getElem_mem hk, e⟩))
theorem DH.nb {H : Hp} {a b : Nat} {L : List (Nat × Sw)} (h : DH H a b L) {k : Nat} (hk : k < L.length) : L[k].1 ≠ b := fun e => (List.nodup_cons.1 (List.nodup_cons.1 h.nd).2).1 (List.mem_map.2 ⟨L[k], List.getElem_mem hk, e⟩)
theorem DH.inj {H : Hp} {a b : Nat} {L : List (Nat × Sw)} (h : DH H a b L) {j k : Nat} (hj : j < L.length) (hk : k < L.length) (e : L[j].1 = L[k].1) : j = k := by
  have := (List.nodup_cons.1 (List.nodup_cons.1 h.nd).2).2
  exact (List.getElem_inj (h₀ := by simpa using hj) (h₁ := by simpa using hk) this).1 (by simpa using e)
theorem st_row1 {H : Hp} {b k n : Nat} {l : List (List Cell)} {c c' : Cell} (h : H[b]? = some (.opn l false)) (hk : l[k]? = some [c']) (hn : l.length = n) :
    vstore Try.prog true H 58 (.one (.ptr ⟨b, k, 0, n⟩)) (.one c) = some (H.set b (.opn (l.set k [c]) false)) := by
  have hlt := (List.getElem?_eq_some_iff.1 hk).1
  have e : l.modify k (fun e => Vm.wr e 0 [c]) = l.set k [c] := by
    apply List.ext_getElem (by simp)
    intro i h1 h2
    rw [List.getElem_modify, List.getElem_set]
    by_cases q : k = i
    · subst q
      have : l[k] = [c'] := by rw [List.getElem?_eq_getElem hlt] at hk; exact Option.some.inj hk
      simp [this, wr]
    · rw [if_neg q, if_neg q]
  simp [vstore, cellsOf?, h, hn, hk, Ent.wrO, e]
theorem cRad_len (R : Rad) : (cRad R).length = 5 := rfl
theorem st_rad {H : Hp} {nest : Bool} {a k n : Nat} {l : List Rad} {R : Rad} (h : H[a]? = some (.clo (l.map cRad) false)) (hk : k < l.length) (hn : l.length = n) :
    vstore Try.prog nest H 31 (.one (.ptr ⟨a, k, 0, n⟩)) (.agg ((cRad R).map .c)) = some (H.set a (.clo ((l.set k R).map cRad) false)) := by
  subst hn
  have e : (List.map cRad l).modify k (fun e => Vm.wr e 0 (cRad R)) = List.map cRad (l.set k R) := by
    rw [List.map_set]
    apply List.ext_getElem (by simp)
    intro i h1 h2
    rw [List.getElem_modify, List.getElem_set]
    by_cases c : k = i
    · subst c; simp [cRad, wr]
    · rw [if_neg c, if_neg c]
  simp only [cRad, cRws, cRw] at h e
  simp [vstore, cellsOf?, h, hk, hasRef, Ent.wrC, cRad, cRws, cRw, e]
end Go.Proofs.YtmgnmnogiajlgaaF
end

section
/- Joint: one round, walked. -/
set_option maxRecDepth 8192
set_option maxHeartbeats 2000000
namespace Go.Proofs.YtmgnmnogiajlgaaF
open Go Go.Proofs.Vm

theorem topT_len (L : List (Nat × Sw)) : (topT L).length = L.length := by simp [topT]
theorem DH.step {H : Hp} {a b n : Nat} {L : List (Nat × Sw)} (h : DH H a b L) {k : Nat} (hk : k < L.length) (hn : L.length = n) {x : Nat × Sw} (hx : L[k] = x) (hm : x.2.2.length ≤ 100000) (key : ByteArray) (R : Rad) : ∃ H2 H3 H4,
    vappendN Try.prog true (H ++ [.clo [[.v (.string key)]] false]) 58 58 (.one (.sl x.1 0 x.2.2.length x.2.2.length)) (.one (.sl H.length 0 1 1)) = some (.one (.sl x.1 0 (x.2.2.length + 1) (x.2.2.length + 1)), H2) ∧
    vstore Try.prog true H2 58 (.one (.ptr ⟨b, k, 0, n⟩)) (.one (.sl x.1 0 (x.2.2.length + 1) (x.2.2.length + 1))) = some H3 ∧
    (H3[a]? = some (.clo (L.map fun x => cRad x.2.1) false) ∧ (∀ (q : Nat) e, q ≠ b → q ≠ x.1 → H[q]? = some e → H3[q]? = some e) ∧ H2[b]? = some (.opn (topT L) false)) ∧
    vstore Try.prog true H3 31 (.one (.ptr ⟨a, k, 0, n⟩)) (.agg ((cRad R).map .c)) = some H4 ∧ DH H4 a b (L.set k (x.1, (R, x.2.2 ++ [key]))) ∧ H.length ≤ H4.length := by
  subst hx
  have hna := h.na hk
  have hnb := h.nb hk
  have hab := h.ab
  have hr := h.row k hk
  have hidlt := (List.getElem?_eq_some_iff.1 hr).1
  have hr1 : (H ++ [Ent.clo [[.v (.string key)]] false])[L[k].1]? = some (.clo (L[k].2.2.map cStr) false) := by rw [List.getElem?_append_left hidlt]; exact hr
  have e1 := vappend_eq (P := Try.prog) (H := H ++ [.clo [[.v (.string key)]] false]) (t := 58) (tx := 58) (id := L[k].1) (n := L[k].2.2.length) (l := L[k].2.2.map cStr) (xs := [[.v (.string key)]]) (x := .one (.sl H.length 0 1 1)) es58 es58 el9
    hr1 (by simp [elemsOf]) (by simp) (by intro e he; obtain ⟨y, -, rfl⟩ := List.mem_map.1 he; rfl) (by simp) (by simp only [List.length_singleton]; omega) (by simp only [List.length_singleton]; omega)
  rw [← vappendN_clo (by simp [elemsO])] at e1
  simp only [List.length_singleton] at e1
  obtain ⟨H2, hH2⟩ : ∃ H2, (H ++ [Ent.clo [[.v (.string key)]] false]).set L[k].1 (.clo (L[k].2.2.map cStr ++ [[.v (.string key)]]) false) = H2 := ⟨_, rfl⟩
  rw [hH2] at e1
  have g2 : ∀ (q : Nat) e, q ≠ L[k].1 → H[q]? = some e → H2[q]? = some e := fun q e hq he => by
    rw [← hH2, set_get hq, List.getElem?_append_left (List.getElem?_eq_some_iff.1 he).1]; exact he
  have g2id : H2[L[k].1]? = some (.clo ((L[k].2.2 ++ [key]).map cStr) false) := by rw [← hH2, set_self hr1, List.map_append]; rfl
  have htk : (topT L)[k]? = some [.sl L[k].1 0 L[k].2.2.length L[k].2.2.length] := by simp [topT, hk]
  have e2 := st_row1 (H := H2) (b := b) (k := k) (n := n) (c := .sl L[k].1 0 (L[k].2.2.length + 1) (L[k].2.2.length + 1)) (g2 b _ (fun e => hnb e.symm) h.top) htk (by rw [topT_len, hn])
  obtain ⟨H3, hH3⟩ : ∃ H3, H2.set b (.opn ((topT L).set k [.sl L[k].1 0 (L[k].2.2.length + 1) (L[k].2.2.length + 1)]) false) = H3 := ⟨_, rfl⟩
  rw [hH3] at e2
  have g3 : ∀ (q : Nat) e, q ≠ b → H2[q]? = some e → H3[q]? = some e := fun q e hq he => by rw [← hH3, set_get hq]; exact he
  have g3b : H3[b]? = some (.opn ((topT L).set k [.sl L[k].1 0 (L[k].2.2.length + 1) (L[k].2.2.length + 1)]) false) := by rw [← hH3]; exact set_self (g2 b _ (fun e => hnb e.symm) h.top)
  have g3a : H3[a]? = some (.clo (L.map fun x => cRad x.2.1) false) := g3 a _ hab (g2 a _ (fun e => hna e.symm) h.rad)
  have g3a' : H3[a]? = some (.clo ((L.map fun x => x.2.1).map cRad) false) := by rw [List.map_map]; exact g3a
  have e3 := st_rad (nest := true) (k := k) (n := n) (R := R) g3a' (by simpa using hk) (by simpa using hn)
  obtain ⟨H4, hH4⟩ : ∃ H4, H3.set a (.clo (((L.map fun x => x.2.1).set k R).map cRad) false) = H4 := ⟨_, rfl⟩
  rw [hH4] at e3
  have g4 : ∀ (q : Nat) e, q ≠ a → H3[q]? = some e → H4[q]? = some e := fun q e hq he => by rw [← hH4, set_get hq]; exact he
  refine ⟨H2, H3, H4, e1, e2, ⟨g3a, fun q e h1 h2 he => g3 q e h1 (g2 q e h2 he), g2 b _ (fun e => hnb e.symm) h.top⟩, e3, ⟨?_, ?_, fun j hj => ?_, ?_⟩, ?_⟩
  · rw [← hH4, set_self g3a]
    congr 2
    rw [List.map_set, List.map_set, List.map_map]
    rfl
  · rw [g4 b _ (fun e => hab e.symm) g3b]
    congr 2
    unfold topT
    rw [List.map_set]
    congr 1
    simp
  · have hj' : j < L.length := by simpa using hj
    rw [List.getElem_set]
    split
    · rename_i e
      subst e
      exact g4 _ _ hna (g3 _ _ hnb g2id)
    · rename_i e
      exact g4 _ _ (h.na hj') (g3 _ _ (h.nb hj') (g2 _ _ (fun e2 => e (h.inj hj' hk e2).symm) (h.row j hj')))
  · have : (L.set k (L[k].1, (R, L[k].2.2 ++ [key]))).map (·.1) = L.map (·.1) := by
      rw [List.map_set]
      apply List.ext_getElem (by simp)
      intro i h1 h2
      rw [List.getElem_set]
      split
      · rename_i e; subst e; simp
      · rfl
    rw [this]; exact h.nd
  · rw [← hH4, ← hH3, ← hH2]; simp
/-- What a round comes to. -/
def RoundQ (H : Hp) (a b : Nat) (L : List (Nat × Sw)) (v : AV) (K : Hp) : Prop := v = vB (jround (L.map (·.2))).isSome ∧ H.length ≤ K.length ∧ ∃ L', DH K a b L' ∧ L'.length = L.length ∧ L'.map (·.2) = (jround (L.map (·.2))).getD (L.map (·.2))
def takeTo (L : List (Nat × Sw)) (i : Nat) (key : ByteArray) (k : Nat) : List (Nat × Sw) := L.mapIdx fun j x => if j < k then (x.1, jtake i key j x.2) else x
theorem takeTo_len (L : List (Nat × Sw)) (i : Nat) (key : ByteArray) (k : Nat) : (takeTo L i key k).length = L.length := by simp [takeTo]
theorem takeTo_zero (L : List (Nat × Sw)) (i : Nat) (key : ByteArray) : takeTo L i key 0 = L := by
  apply List.ext_getElem (by simp [takeTo])
  intro j h1 h2
  simp [takeTo]
theorem takeTo_get {L : List (Nat × Sw)} {i k j : Nat} {key : ByteArray} (h : j < (takeTo L i key k).length) (h' : j < L.length) (hj : k ≤ j) : (takeTo L i key k)[j] = L[j] := by
  simp only [takeTo, List.getElem_mapIdx]
  rw [if_neg (by omega)]
theorem takeTo_succ {L : List (Nat × Sw)} {i k : Nat} {key : ByteArray} (h : k < L.length) : takeTo L i key (k + 1) = (takeTo L i key k).set k (L[k].1, jtake i key k L[k].2) := by
  apply List.ext_getElem (by simp [takeTo])
  intro j h1 h2
  rw [List.getElem_set]
  simp only [takeTo, List.getElem_mapIdx]
  by_cases e : k = j
  · subst e; rw [if_pos (by omega), if_pos rfl]
  · rw [if_neg e]
    by_cases e2 : j < k
    · rw [if_pos e2, if_pos (by omega)]
    · rw [if_neg e2, if_neg (by omega)]
theorem takeTo_skip {L : List (Nat × Sw)} {i k : Nat} {key : ByteArray} (h : k < L.length) (hh : jHit i key k L[k].2 = false) : takeTo L i key (k + 1) = takeTo L i key k := by
  rw [takeTo_succ h, jtake, hh, if_neg (by decide)]
  apply List.ext_getElem (by simp)
  intro j h1 h2
  rw [List.getElem_set]
  split
  · rename_i e
    subst e
    rw [takeTo_get h2 h (Nat.le_refl _)]
  · rfl
theorem takeTo_all {L : List (Nat × Sw)} {i k : Nat} {key : ByteArray} (h : L.length ≤ k) : (takeTo L i key k).map (·.2) = (L.map (·.2)).mapIdx (jtake i key) := by
  apply List.ext_getElem (by simp [takeTo])
  intro j h1 h2
  have hj : j < L.length := by simpa [takeTo] using h1
  simp only [takeTo, List.getElem_map, List.getElem_mapIdx]
  rw [if_pos (by omega)]
theorem st_box {G : Hp} {R : Rad} {c1 c2 : Ent} {a b c d e : Cell} : vstore Try.prog true (G ++ [.opn [[a, b, c, d, e]] false, c1, c2]) 31 (.one (.ptr ⟨G.length, 0, 0, 1⟩)) (.agg ((cRad R).map .c)) = some (G ++ [.opn [(cRad R).map .c] false, c1, c2]) := by
  simp [vstore, cellsOf?, cRad, Ent.wrO, wr]
theorem jn_round {H : Hp} {a b n : Nat} {L : List (Nat × Sw)} (hD : DH H a b L) (hok : JOk (L.map (·.2))) (hn : L.length = n) (hn64 : n ≤ 64) (hm : ∀ x ∈ L, x.2.2.length ≤ 100000) : ∃ v K, TV.S 39 [.one (.sl a 0 n n), .one (.sl b 0 n n)] H = some (v, K) ∧ RoundQ H a b L v K := by
  refine runX39 (by simp) (by rintro v K ⟨-, h, -⟩; exact h) ?_
  simp -implicitDefEqProofs [Try.f39, hD.rad, hn]
  obtain ⟨I, hI⟩ : ∃ I : Nat → St → Prop, ∀ k s', I k s' ↔ (∃ e G i, s' = ⟨e, G⟩ ∧ e 0 = .one (.sl a 0 n n) ∧ e 1 = .one (.sl b 0 n n) ∧ e 11 = .one (.sl a 0 n n) ∧ e 12 = vI .i64 n ∧ e 13 = vI .i64 (i : Nat) ∧ (i + k = n) ∧ (DH G a b L) ∧ (H.length ≤ G.length) ∧ (∀ j (hj : j < L.length), j < i → pureOf L[j].2.1 L[j].2.2 = none)) := ⟨_, fun _ _ => Iff.rfl⟩
  refine wpL_ind I ?_ n _ ((hI _ _).2 ⟨_, H, 0, (by first | rfl | (simp; done) | (simp; rfl) | (simp; and_intros <;> rfl)), by simp, by simp, by simp, by simp, by simp, by omega, hD, Nat.le_refl _, fun j hj hji => by omega⟩)
  intro k stI hstI
  obtain ⟨e, G, i, rfl, e0, e1, e11, e12, e13, hi, hG, hGl, hno⟩ := (hI _ _).1 hstI
  by_cases c : i < n
  · have c' : (i : Int) < n := by omega
    have hiL : i < L.length := by omega
    obtain ⟨x, hx⟩ : ∃ x, L[i] = x := ⟨_, rfl⟩
    have hxi : L[i]? = some x := by rw [List.getElem?_eq_getElem hiL, hx]
    have hxm : x ∈ L := hx ▸ List.getElem_mem hiL
    obtain ⟨ks, kl, kok⟩ := hok x.2 (List.mem_map.2 ⟨x, hxm, rfl⟩)
    have hxt := hm x hxm
    have hP := rd_Pure (told := x.2.2) ks kl kok (by omega)
    have hAp : ∀ T : Hp, (G ++ T)[a]? = some (.clo (L.map fun x => cRad x.2.1) false) := fun T => (hG.app T).rad
    have hTp : ∀ T : Hp, (G ++ T)[b]? = some (.opn (topT L) false) := fun T => (hG.app T).top
    have hRp : ∀ T : Hp, (G ++ T)[x.1]? = some (.clo (x.2.2.map cStr) false) := fun T => by have := (hG.app T).row i hiL; rw [hx] at this; exact this
    have htT : (topT L)[i]? = some [.sl x.1 0 x.2.2.length x.2.2.length] := by simp [topT, hxi]
    obtain ⟨id, R, told⟩ := x
    dsimp only at ks kl kok hxt hP hAp hTp hRp htT
    have w_i : IntKind.i64.wrap ((i : Int) + 1) = ((i + 1 : Nat) : Int) := by rw [w64_id (by omega) (by omega)]; omega
    simp only [cRad, cRws, cRw, cSs] at hP
    cases hpo : pureOf R told with
    | none =>
      rw [hpo] at hP
      simp only [pureA] at hP
      simp -implicitDefEqProofs [e1, e11, e12, e13, c', hG.rad, hTp, hRp, htT, hxi, hn, topT_len, take_str, cRad, cRws, cRw, hP, vmove, isNil, vstore, cellsOf?, Ent.wrO, wr]
      refine ⟨c, ?_⟩
      refine ⟨(k - 1), by omega, (hI _ _).2 ⟨_, _, i + 1, (by first | rfl | (simp [e0, e1, e11, e12, w_i]; done) | (simp [e0, e1, e11, e12, w_i]; rfl) | (simp [e0, e1, e11, e12, w_i]; and_intros <;> rfl)), by simp [e0, w_i], by simp [e1, w_i], by simp [e11, w_i], by simp [e12, w_i], by simp [w_i], by omega, hG.app _, by rw [List.length_append]; omega, ?_⟩⟩
      intro j hj hji
      by_cases ej : j = i
      · subst ej; rw [hx]; exact hpo
      · exact hno j hj (by omega)
    | some key =>
      rw [hpo] at hP
      simp only [pureA] at hP
      simp -implicitDefEqProofs [e0, e1, e11, e12, e13, c', hG.rad, hAp, hTp, hRp, htT, hxi, hn, topT_len, take_str, cRad, cRws, cRw, hP, vmove, isNil, vstore, cellsOf?, Ent.wrO, wr]
      refine ⟨c, ?_⟩
      have hfi : jfind (L.map (·.2)) = some (i, key) := jfind_eq (by simpa using hiL) (by simp only [List.getElem_map, hx]; exact hpo) (fun j hj hji => by
        have hj' : j < L.length := by simpa using hj
        simp only [List.getElem_map]
        exact hno j hj' hji)
      have hk37 := pureOf_size kok hpo
      obtain ⟨J, hJ⟩ : ∃ J : Nat → St → Prop, ∀ k2 s', J k2 s' ↔ (∃ e G k, s' = ⟨e, G⟩ ∧ e 0 = .one (.sl a 0 n n) ∧ e 1 = .one (.sl b 0 n n) ∧ e 5 = vI .i64 (i : Nat) ∧ e 7 = vS key ∧ e 29 = .one (.sl a 0 n n) ∧ e 30 = vI .i64 n ∧ e 31 = vI .i64 (k : Nat) ∧ (k + k2 = n) ∧ (DH G a b (takeTo L i key k)) ∧ (H.length ≤ G.length)) := ⟨_, fun _ _ => Iff.rfl⟩
      refine wpL_ind J ?_ n _ ((hJ _ _).2 ⟨_, _, 0, (by first | rfl | (simp [e0, e1, e11, e12, e13]; done) | (simp [e0, e1, e11, e12, e13]; rfl) | (simp [e0, e1, e11, e12, e13]; and_intros <;> rfl)), by simp [e0], by simp [e1], by simp, by simp, by simp, by simp, by simp, by omega, by rw [takeTo_zero]; exact hG.app _, by rw [List.length_append]; omega⟩)
      clear e0 e1 e11 e12 e13 hAp hTp hRp hG hGl
      intro k2 stJ hstJ
      obtain ⟨e, G, k, rfl, e0, e1, e5, e7, e29, e30, e31, hk, hG, hGl⟩ := (hJ _ _).1 hstJ
      by_cases d : k < n
      · have d' : (k : Int) < n := by omega
        have hkL : k < L.length := by omega
        have hkM : k < (takeTo L i key k).length := by rw [takeTo_len]; exact hkL
        obtain ⟨y, hy⟩ : ∃ y, L[k] = y := ⟨_, rfl⟩
        have hym : y ∈ L := hy ▸ List.getElem_mem hkL
        have hMk : (takeTo L i key k)[k] = y := by rw [takeTo_get hkM hkL (Nat.le_refl _), hy]
        have hMi : (takeTo L i key k)[k]? = some y := by rw [List.getElem?_eq_getElem hkM, hMk]
        obtain ⟨ys, yl, yok⟩ := hok y.2 (List.mem_map.2 ⟨y, hym, rfl⟩)
        have hyt := hm y hym
        have hAp : ∀ T : Hp, (G ++ T)[a]? = some (.clo ((takeTo L i key k).map fun x => cRad x.2.1) false) := fun T => (hG.app T).rad
        have hTp : ∀ T : Hp, (G ++ T)[b]? = some (.opn (topT (takeTo L i key k)) false) := fun T => (hG.app T).top
        have hRp : ∀ T : Hp, (G ++ T)[y.1]? = some (.clo (y.2.2.map cStr) false) := fun T => by have := (hG.app T).row k hkM; rw [hMk] at this; exact this
        have htT : (topT (takeTo L i key k))[k]? = some [.sl y.1 0 y.2.2.length y.2.2.length] := by simp [topT, hMi]
        have hCt := contains_strs (v := key) (r := y.2.2) (by omega)
        have hHa := bloom_Has (seed := y.2.1.fs) (h := y.2.1.h) (bits := y.2.1.bits) (key := key) ys.2.2.1 ys.2.2.2 (by omega)
        have hRm := rd_Remove ys yl yok hk37
        have hst := fun T => (hG.app T).step hkM (by rw [takeTo_len, hn]) hMk hyt key (remR y.2.1 key)
        have hMl : (takeTo L i key k).length = n := by rw [takeTo_len, hn]
        have hskip : jHit i key k L[k].2 = false → DH G a b (takeTo L i key (k + 1)) := fun h => by rw [takeTo_skip hkL h]; exact hG
        have hhit : jHit i key k L[k].2 = true → (takeTo L i key k).set k (y.1, (remR y.2.1 key, y.2.2 ++ [key])) = takeTo L i key (k + 1) := fun h => by
          rw [takeTo_succ hkL, jtake, if_pos h, hy]
        have hyf := (rOk_facts yok).1
        rw [hyf, Bool.true_and] at hHa
        rw [hy] at hskip hhit
        obtain ⟨id2, R2, told2⟩ := y
        dsimp only at ys yl yok hyt hAp hTp hRp htT hCt hHa hRm hst hskip hhit
        unfold jHit at hskip hhit
        dsimp only at hskip hhit
        have w_k : IntKind.i64.wrap ((k : Int) + 1) = ((k + 1 : Nat) : Int) := by rw [w64_id (by omega) (by omega)]; omega
        simp only [cRad, cRws, cRw, cSs, cF] at hCt hHa hRm
        by_cases ki : k = i
        · have ki' : (k : Int) = i := by omega
          have hhit := hhit (by simp [ki])
          have kb : ((k : Int) == (i : Int)) = true := by simp [ki]
          have hbox := fun a b c d e => st_box (G := G) (R := R2) (c1 := .clo [] false) (c2 := .clo [] false) (a := a) (b := b) (c := c) (d := d) (e := e)
          simp only [cRad, cRws, cRw, List.map_cons, List.map_nil] at hbox
          obtain ⟨H2, H3, H4, s1, s2, ⟨s3, s4, g2b⟩, s5, s6, s7⟩ := hst [.opn [(cRad R2).map .c] false, .clo [] false, .clo [] false]
          have hlt1 := (List.getElem?_eq_some_iff.1 hG.top).1
          have hlt2 := (List.getElem?_eq_some_iff.1 (hRp [])).1
          rw [List.append_nil] at hlt2
          have hbx := s4 G.length (.opn [(cRad R2).map .c] false) (by omega) (by omega) (by simp)
          have e3 : (G ++ [Ent.opn [(cRad R2).map .c] false, .clo [] false, .clo [] false]).length = G.length + 3 := by simp
          rw [hhit] at s6
          rw [e3] at s1 s7
          rw [List.append_assoc] at s1
          simp only [cRad, cRws, cRw, List.map_cons, List.map_nil, List.cons_append, List.nil_append, remR] at s1 s3 s5 hbx
          simp -implicitDefEqProofs [e0, e1, e5, e7, e29, e30, e31, d', hG.rad, hTp, htT, hMi, hMl, topT_len, cRad, cRws, cRw, kb, vmove, isNil, cellsOf?, hbox, g2b, s2, s3, hbx, hRm, s5, vbuildSlice_eq es58 el9, fzParts, setAll, rchParts, rch, s1]
          refine ⟨d, ?_⟩
          exact ⟨(k2 - 1), by omega, (hJ _ _).2 ⟨_, H4, k + 1, (by first | rfl | (simp [e0, e1, e5, e7, e29, e30, w_k]; done) | (simp [e0, e1, e5, e7, e29, e30, w_k]; rfl) | (simp [e0, e1, e5, e7, e29, e30, w_k]; and_intros <;> rfl)), by simp [e0, w_k], by simp [e1, w_k], by simp [e5, w_k], by simp [e7, w_k], by simp [e29, w_k], by simp [e30, w_k], by simp [w_k], by omega, s6, by omega⟩⟩
        have ki' : ¬ (k : Int) = i := by omega
        cases hc : told2.any (sEq key) with
        | true =>
          rw [hc] at hCt
          have hskip := hskip (by simp [ki, hc])
          simp -implicitDefEqProofs [e1, e5, e7, e29, e30, e31, d', hG.rad, hTp, hRp, htT, hMi, hMl, topT_len, take_str, cRad, cRws, cRw, ki', hCt, vmove, isNil, vstore, cellsOf?, Ent.wrO, wr]
          refine ⟨d, ?_⟩
          exact ⟨(k2 - 1), by omega, (hJ _ _).2 ⟨_, _, k + 1, (by first | rfl | (simp [e0, e1, e5, e7, e29, e30, w_k]; done) | (simp [e0, e1, e5, e7, e29, e30, w_k]; rfl) | (simp [e0, e1, e5, e7, e29, e30, w_k]; and_intros <;> rfl)), by simp [e0, w_k], by simp [e1, w_k], by simp [e5, w_k], by simp [e7, w_k], by simp [e29, w_k], by simp [e30, w_k], by simp [w_k], by omega, hskip.app _, by rw [List.length_append]; omega⟩⟩
        | false =>
        rw [hc] at hCt
        cases hh : hasB R2.fs R2.h R2.bits key with
        | false =>
          rw [hh] at hHa
          have hskip := hskip (by simp [ki, hc, hh])
          simp -implicitDefEqProofs [e1, e5, e7, e29, e30, e31, d', hG.rad, hTp, hRp, htT, hMi, hMl, topT_len, take_str, cRad, cRws, cRw, ki', hCt, hHa, vmove, isNil, vstore, cellsOf?, Ent.wrO, wr]
          refine ⟨d, ?_⟩
          exact ⟨(k2 - 1), by omega, (hJ _ _).2 ⟨_, _, k + 1, (by first | rfl | (simp [e0, e1, e5, e7, e29, e30, w_k]; done) | (simp [e0, e1, e5, e7, e29, e30, w_k]; rfl) | (simp [e0, e1, e5, e7, e29, e30, w_k]; and_intros <;> rfl)), by simp [e0, w_k], by simp [e1, w_k], by simp [e5, w_k], by simp [e7, w_k], by simp [e29, w_k], by simp [e30, w_k], by simp [w_k], by omega, hskip.app _, by rw [List.length_append]; omega⟩⟩
        | true =>
          rw [hh] at hHa
          have hhit := hhit (by simp [hc, hh])
          have hbox := fun a b c d e => st_box (G := G) (R := R2) (c1 := .clo [] false) (c2 := .clo [] false) (a := a) (b := b) (c := c) (d := d) (e := e)
          simp only [cRad, cRws, cRw, List.map_cons, List.map_nil] at hbox
          obtain ⟨H2, H3, H4, s1, s2, ⟨s3, s4, g2b⟩, s5, s6, s7⟩ := hst [.opn [(cRad R2).map .c] false, .clo [] false, .clo [] false]
          have hlt1 := (List.getElem?_eq_some_iff.1 hG.top).1
          have hlt2 := (List.getElem?_eq_some_iff.1 (hRp [])).1
          rw [List.append_nil] at hlt2
          have hbx := s4 G.length (.opn [(cRad R2).map .c] false) (by omega) (by omega) (by simp)
          have e3 : (G ++ [Ent.opn [(cRad R2).map .c] false, .clo [] false, .clo [] false]).length = G.length + 3 := by simp
          rw [hhit] at s6
          rw [e3] at s1 s7
          rw [List.append_assoc] at s1
          simp only [cRad, cRws, cRw, List.map_cons, List.map_nil, List.cons_append, List.nil_append, remR] at s1 s3 s5 hbx
          simp -implicitDefEqProofs [e0, e1, e5, e7, e29, e30, e31, d', hG.rad, hTp, hRp, htT, hMi, hMl, topT_len, take_str, cRad, cRws, cRw, ki', hCt, hHa, vmove, isNil, cellsOf?, hbox, g2b, s2, s3, hbx, hRm, s5, vbuildSlice_eq es58 el9, fzParts, setAll, rchParts, rch, s1]
          refine ⟨d, ?_⟩
          exact ⟨(k2 - 1), by omega, (hJ _ _).2 ⟨_, H4, k + 1, (by first | rfl | (simp [e0, e1, e5, e7, e29, e30, w_k]; done) | (simp [e0, e1, e5, e7, e29, e30, w_k]; rfl) | (simp [e0, e1, e5, e7, e29, e30, w_k]; and_intros <;> rfl)), by simp [e0, w_k], by simp [e1, w_k], by simp [e5, w_k], by simp [e7, w_k], by simp [e29, w_k], by simp [e30, w_k], by simp [w_k], by omega, s6, by omega⟩⟩
      · have d' : ¬ (k : Int) < n := by omega
        have hR : RoundQ H a b L (vB true) G := ⟨by rw [jround, hfi]; rfl, hGl, _, hG, takeTo_len .., by rw [takeTo_all (by omega), jround, hfi]; rfl⟩
        simp -implicitDefEqProofs [e30, e31, d', vmove, isNil]
        exact hR
  · have c' : ¬ (i : Int) < n := by omega
    have hno' : jfind (L.map (·.2)) = none := jfind_eq_none fun j hj => by
      have hj' : j < L.length := by simpa using hj
      simp only [List.getElem_map]
      exact hno j hj' (by omega)
    simp -implicitDefEqProofs [e12, e13, c', vmove, isNil]
    exact ⟨by rw [jround, hno']; rfl, hGl, L, hG, rfl, by rw [jround, hno']; rfl⟩
end Go.Proofs.YtmgnmnogiajlgaaF
end

section
/- Joint: all rounds. -/
set_option maxRecDepth 8192
set_option maxHeartbeats 2000000
namespace Go.Proofs.YtmgnmnogiajlgaaF
open Go Go.Proofs.Vm

theorem index_rads {g : CV} {caps : List CV} {f : FuncId} (hg : g = .fn f caps) {p : Rad → Bool} {r : List Rad} (hp : ∀ n ∈ r, TV.pu f (.agg (cRad n) :: caps.map .one) = some (cB (p n))) (hl : r.length < 9223372036854775807) :
    TV.pu 59 [.one (cRads r), .one g] = some (cI .i64 (idxF p r)) := by
  subst hg
  refine run59 (by simp) ?_
  simp [Try.f59, cRads]
  obtain ⟨I, hI⟩ : ∃ I : Nat → St → Prop, ∀ k s', I k s' ↔ (∃ e j, s' = ⟨e, []⟩ ∧ e 0 = .one (.c (.arr (r.map cRad))) ∧ e 1 = .one (.c (.fn f caps)) ∧ e 7 = vI .i64 r.length ∧ e 8 = vI .i64 (j : Nat) ∧ j + k = r.length ∧ ∀ q, q < j → ∀ x, r[q]? = some x → p x = false) := ⟨_, fun _ _ => Iff.rfl⟩
  refine wpL_ind I ?_ r.length _ ((hI _ _).2 ⟨_, 0, rfl, by simp, by simp, by simp, by simp, by omega, by simp⟩)
  intro k st hst
  obtain ⟨e, j, rfl, e0, e1, e7, e8, hk, hno⟩ := (hI _ _).1 hst
  by_cases c : j < r.length
  · have hx : r[j]? = some r[j] := List.getElem?_eq_getElem c
    have hpj := hp r[j] (List.getElem_mem c)
    have w1 : IntKind.i64.wrap ((j : Int) + 1) = ((j + 1 : Nat) : Int) := by rw [w64_id (by omega) (by omega)]; omega
    simp only [cRad, cRws, cRw] at hpj
    simp [e0, e1, e7, e8, c, hpj, w1, cRad, cRws, cRw]
    by_cases hj : p r[j] = true
    · simp [hj, idxF_at p r j c hj hno]
    · simp [hj]
      refine ⟨k - 1, by omega, (hI _ _).2 ⟨_, j + 1, rfl, by simp [e0], by simp [e1], by simp [e7], by simp, by omega, ?_⟩⟩
      intro q hq x hx2
      by_cases hqj : q = j
      · subst hqj
        rw [hx] at hx2
        cases hx2
        simpa using hj
      · exact hno q (by omega) x hx2
  · have c' : ¬ (j : Int) < (r.length : Int) := by omega
    simp [e0, e1, e7, e8, c']
    rw [idxF_none p r fun q hq => hno q (by omega)]
theorem contains_rads {g : CV} {caps : List CV} {f : FuncId} (hg : g = .fn f caps) {p : Rad → Bool} {r : List Rad} (hp : ∀ n ∈ r, TV.pu f (.agg (cRad n) :: caps.map .one) = some (cB (p n))) (hl : r.length < 9223372036854775807) :
    TV.pu 36 [.one (cRads r), .one g] = some (cB (r.any p)) := by
  refine run36 (by simp) ?_
  have h := index_rads hg hp hl
  subst hg
  simp [Try.f36, h, idxF_ge, cRads] at h ⊢

theorem mk_told {nid n : Nat} (h0 : 0 < n) (h : n ≤ 64) : vmakeRows Try.prog nid 55 (vI .i64 n) (vI .i64 n) = some (.one (.sl nid 0 n n), .opn ((List.range n).map fun j => [.sl (nid + 1 + j) 0 0 0]) false :: List.replicate n (.clo [] false), []) := by
  have hz : pv Try.prog (zeroValue 58) = some (.slice none 0 0) := by kernel_rfl
  obtain ⟨i, v, h1, h2, h3, h4, h5, h6, h7⟩ := elOf_facts (P := Try.prog) el58
  unfold vmakeRows
  simp only [es55, h1, hz]
  rw [if_pos ⟨by omega, trivial, by rw [h4]; simp [small]; omega, by omega, h3⟩]
  rw [Int.toNat_natCast, ownz_reps, List.map_map]
  rfl
def sortTo (L : List (Nat × Sw)) (i : Nat) : List (Nat × Sw) := L.mapIdx fun j x => if j < i then (x.1, (x.2.1, ssort x.2.2)) else x
theorem sortTo_len (L : List (Nat × Sw)) (i : Nat) : (sortTo L i).length = L.length := by simp [sortTo]
theorem sortTo_zero (L : List (Nat × Sw)) : sortTo L 0 = L := by
  apply List.ext_getElem (by simp [sortTo])
  intro j h1 h2
  simp [sortTo]
theorem sortTo_get {L : List (Nat × Sw)} {k j : Nat} (h : j < (sortTo L k).length) (h' : j < L.length) (hj : k ≤ j) : (sortTo L k)[j] = L[j] := by
  simp only [sortTo, List.getElem_mapIdx]
  rw [if_neg (by omega)]
theorem sortTo_succ {L : List (Nat × Sw)} {k : Nat} (h : k < L.length) : sortTo L (k + 1) = (sortTo L k).set k (L[k].1, (L[k].2.1, ssort L[k].2.2)) := by
  apply List.ext_getElem (by simp [sortTo])
  intro j h1 h2
  rw [List.getElem_set]
  simp only [sortTo, List.getElem_mapIdx]
  by_cases e : k = j
  · subst e; rw [if_pos (by omega), if_pos rfl]
  · rw [if_neg e]
    by_cases e2 : j < k
    · rw [if_pos e2, if_pos (by omega)]
    · rw [if_neg e2, if_neg (by omega)]
theorem sortTo_all {L : List (Nat × Sw)} {k : Nat} (h : L.length ≤ k) : (sortTo L k).map (·.2) = (L.map (·.2)).map fun x => (x.1, ssort x.2) := by
  apply List.ext_getElem (by simp [sortTo])
  intro j h1 h2
  have hj : j < L.length := by simpa [sortTo] using h1
  simp only [sortTo, List.getElem_map, List.getElem_mapIdx]
  rw [if_pos (by omega)]
theorem DH.sort {H : Hp} {a b : Nat} {L : List (Nat × Sw)} (h : DH H a b L) {k : Nat} (hk : k < L.length) {x : Nat × Sw} (hx : L[k] = x) : DH (H.set x.1 (.clo ((ssort x.2.2).map cStr) false)) a b (L.set k (x.1, (x.2.1, ssort x.2.2))) := by
  subst hx
  have hna := h.na hk
  have hnb := h.nb hk
  refine ⟨?_, ?_, fun j hj => ?_, ?_⟩
  · rw [set_get (fun e => hna e.symm), h.rad]
    congr 2
    apply List.ext_getElem (by simp)
    intro i h1 h2
    rw [List.getElem_map, List.getElem_map, List.getElem_set]
    split
    · rename_i e; subst e; rfl
    · rfl
  · rw [set_get (fun e => hnb e.symm), h.top]
    congr 2
    apply List.ext_getElem (by simp [topT])
    intro i h1 h2
    simp only [topT, List.getElem_map, List.getElem_set]
    split
    · rename_i e; subst e; simp [ssort_len]
    · rfl
  · have hj' : j < L.length := by simpa using hj
    rw [List.getElem_set]
    split
    · rename_i e
      subst e
      exact set_self (h.row _ hk)
    · rename_i e
      rw [set_get (fun e2 => e (h.inj hj' hk e2).symm)]
      exact h.row j hj'
  · have : (L.set k (L[k].1, (L[k].2.1, ssort L[k].2.2))).map (·.1) = L.map (·.1) := by
      rw [List.map_set]
      apply List.ext_getElem (by simp)
      intro i h1 h2
      rw [List.getElem_set]
      split
      · rename_i e; subst e; simp
      · rfl
    rw [this]; exact h.nd
def cTold (t : List (List ByteArray)) : CV := .arr (t.map fun l => [cSs l])
theorem DH.fz1 {H : Hp} {a b n : Nat} {L : List (Nat × Sw)} (h : DH H a b L) (hn : L.length = n) : fzc 5 H (.sl b 0 n n) = some (cTold (L.map (·.2.2))) := by
  have hm : mapO (mapO (fzc 4 H)) (topT L) = some (L.map fun x => [cSs x.2.2]) := by
    refine mapO_al (by simp [topT]) fun j x y hx hy => ?_
    have hj : j < L.length := by
      have := (List.getElem?_eq_some_iff.1 hx).1
      simpa [topT] using this
    have hr := h.row j hj
    simp [topT, hj] at hx hy
    subst hx hy
    simp only [mapO, fzc, hr, List.length_map, if_true, List.drop_zero]
    rw [List.take_of_length_le (by simp)]
    rfl
  unfold fzc
  simp only [h.top, topT_len, hn, if_true, List.drop_zero]
  rw [List.take_of_length_le (by rw [topT_len, hn]; exact Nat.le_refl _), hm]
  simp [cTold]
end Go.Proofs.YtmgnmnogiajlgaaF
end

section
/- Joint: Decode. -/
set_option maxRecDepth 8192
set_option maxHeartbeats 2000000
namespace Go.Proofs.YtmgnmnogiajlgaaF
open Go Go.Proofs.Vm

def decOk (l : List Rad) : Bool := decide (l.length ≤ 3) && l.all rOk
/-- What is told, and what is left. -/
def decA (S : List Sw) : CA := .tup [(false, [cTold (S.map fun x => ssort x.2)]), (false, [cRads (S.map (·.1))]), (false, [.v (.int .i64 0)])]
theorem jn_cw {l : List Rad} (hs : ∀ R ∈ l, Seeds R ∧ Lens R) (hl : l.length < 4611686018427387904) : TV.pu 36 [.one (cRads l), .one (.fn 37 [])] = some (cB (l.any fun R => !rOk R)) :=
  contains_rads (p := fun R => !rOk R) rfl (fun R hR => jn_wrong (hs R hR).1 (hs R hR).2) (by omega)
theorem jn_Decode_no {l : List Rad} (hs : ∀ R ∈ l, Seeds R ∧ Lens R) (hl : l.length < 4611686018427387904) (h : decOk l = false) : TV.pu 13 [.one (cRads l)] = some (.tup [(false, [.arr []]), (false, [.arr []]), (false, [.v (.int .i64 1)])]) := by
  refine run13 (by simp) ?_
  have hC := jn_cw hs hl
  simp only [cRads] at hC
  by_cases h3 : l.length ≤ 3
  · have h3' : ¬ 3 < (l.length : Int) := by omega
    have ha : l.any (fun R => !rOk R) = true := by
      unfold decOk at h
      rw [decide_eq_true h3, Bool.true_and, List.all_eq_false] at h
      obtain ⟨R, hR, h⟩ := h
      exact List.any_eq_true.2 ⟨R, hR, by simpa using h⟩
    rw [ha] at hC
    simp -implicitDefEqProofs [Try.f13, cRads, vmove, isNil, h3', hC]
  · have h3' : 3 < (l.length : Int) := by omega
    simp -implicitDefEqProofs [Try.f13, cRads, vmove, isNil, h3']
theorem jall_ok : ∀ (n : Nat) {L : List Sw}, JOk L → JOk (jall n L)
  | 0, _, h => h
  | n + 1, L, h => by
    cases hf : jfind L with
    | none => rw [jall_none hf]; exact h
    | some r => rw [jall_some hf]; exact jall_ok n (jmap_ok h)
theorem dh_start {K : Hp} {l : List Rad} : DH (K ++ Ent.clo (List.map cRad l) false :: Ent.opn (List.map (fun j => [Cell.sl (K.length + 1 + 1 + j) 0 0 0]) (List.range l.length)) false :: List.replicate l.length (Ent.clo [] false)) K.length (K.length + 1) (l.mapIdx fun j R => (K.length + 1 + 1 + j, (R, []))) := by
  refine ⟨?_, ?_, fun k hk => ?_, ?_⟩
  · rw [ap_get0, List.getElem?_cons_zero]
    congr 2
    apply List.ext_getElem (by simp)
    intro i h1 h2
    simp
  · rw [ap_get, List.getElem?_cons_succ, List.getElem?_cons_zero]
    congr 2
    apply List.ext_getElem (by simp [topT])
    intro i h1 h2
    simp [topT]
  · have hk' : k < l.length := by simpa using hk
    simp only [List.getElem_mapIdx]
    rw [show K.length + 1 + 1 + k = K.length + (k + 2) by omega, ap_get]
    simp [hk']
  · have e : (l.mapIdx fun j R => ((K.length + 1 + 1 + j, (R, [])) : Nat × Sw)).map (·.1) = (List.range l.length).map fun j => K.length + 1 + 1 + j := by
      apply List.ext_getElem (by simp)
      intro i h1 h2
      simp
    rw [e, List.nodup_cons, List.nodup_cons]
    refine ⟨?_, ?_, ?_⟩
    · simp; omega
    · simp; omega
    · rw [List.nodup_iff_pairwise_ne, List.pairwise_iff_getElem]
      intro i j h1 h2 hij
      simp
      omega
theorem jpos_le {L : List Sw} (h : JOk L) : jpos L ≤ 1792 * L.length := by
  unfold jpos
  induction L with
  | nil => simp
  | cons x L ih =>
    have h1 := posN_le (h x List.mem_cons_self).2.2
    have h2 := ih fun y hy => h y (List.mem_cons_of_mem _ hy)
    simp only [List.map_cons, List.sum_cons, List.length_cons]
    omega
theorem l0_nil {K : Hp} {l : List Rad} {L0 : List (Nat × Sw)} (h : l.mapIdx (fun j R => (K.length + 1 + 1 + j, (R, []))) = L0) {x : Nat × Sw} (hx : x ∈ L0) : x.2.2 = [] := by
  subst h
  obtain ⟨i, hi, rfl⟩ := List.getElem_of_mem hx
  simp
theorem jn_Decode {l : List Rad} (hs : ∀ R ∈ l, Seeds R ∧ Lens R) (h0 : l ≠ []) (h : decOk l = true) : TV.pu 13 [.one (cRads l)] = some (decA (jdec l)) := by
  refine run13 (by simp) ?_
  have h3 : l.length ≤ 3 ∧ l.all rOk = true := by simpa [decOk] using h
  have hC := jn_cw hs (by omega)
  have ha : l.any (fun R => !rOk R) = false := by
    rw [List.any_eq_false]
    intro R hR
    have := List.all_eq_true.1 h3.2 R hR
    simp [this]
  rw [ha] at hC
  obtain ⟨K, hK1, hK2, hCl⟩ := rads_Clone (r := l) (H := [.clo [] false, .clo [] false]) (by omega)
  have h3' : ¬ 3 < (l.length : Int) := by omega
  have hl0 : 0 < l.length := List.length_pos_iff.2 h0
  have hmk := fun nid => mk_told (nid := nid) (n := l.length) hl0 (by omega)
  simp only [cRads] at hC hCl
  simp -implicitDefEqProofs [Try.f13, cRads, vmove, isNil, h3', hC, hCl, hmk, hl0]
  obtain ⟨L0, hL0⟩ : ∃ L0 : List (Nat × Sw), l.mapIdx (fun j R => (K.length + 1 + 1 + j, (R, []))) = L0 := ⟨_, rfl⟩
  have hLs : L0.map (·.2) = l.map fun R => (R, []) := by rw [← hL0]; apply List.ext_getElem (by simp); intro i h1 h2; simp
  have hL0l : L0.length = l.length := by rw [← hL0]; simp
  obtain ⟨S, hS⟩ : ∃ S, jdec l = S := ⟨_, rfl⟩
  rw [hS]
  have hD0 := dh_start (K := K) (l := l)
  rw [hL0] at hD0
  obtain ⟨a, ha⟩ : ∃ a, K.length = a := ⟨_, rfl⟩
  obtain ⟨H0, hH0⟩ : ∃ H0, (K ++ Ent.clo (List.map cRad l) false :: Ent.opn (List.map (fun j => [Cell.sl (K.length + 1 + 1 + j) 0 0 0]) (List.range l.length)) false :: List.replicate l.length (Ent.clo [] false)) = H0 := ⟨_, rfl⟩
  rw [hH0, ha] at hD0
  rw [hH0, ha]
  have hJ0 : JOk (L0.map (·.2)) := by
    rw [hLs]
    intro x hx
    obtain ⟨R, hR, rfl⟩ := List.mem_map.1 hx
    exact ⟨(hs R hR).1, (hs R hR).2, List.all_eq_true.1 h3.2 R hR⟩
  have hp0 : jpos (L0.map (·.2)) ≤ 3 * 1792 := by
    have := jpos_le hJ0
    rw [List.length_map, hL0l] at this
    have : 1792 * l.length ≤ 1792 * 3 := Nat.mul_le_mul_left _ h3.1
    omega
  have hn64 : l.length ≤ 64 := by omega
  obtain ⟨I, hI⟩ : ∃ I : Nat → St → Prop, ∀ k s', I k s' ↔ (∃ e G L, s' = ⟨e, G⟩ ∧ e 5 = .one (.sl a 0 l.length l.length) ∧ e 6 = .one (.sl (a + 1) 0 l.length l.length) ∧ (k = jpos (L.map (·.2))) ∧ (DH G a (a + 1) L) ∧ (JOk (L.map (·.2))) ∧ (L.length = l.length) ∧ (∃ m, jpos (L.map (·.2)) ≤ m ∧ jall m (L.map (·.2)) = S) ∧ (∀ x ∈ L, x.2.2.length + jpos (L.map (·.2)) ≤ 6000)) := ⟨_, fun _ _ => Iff.rfl⟩
  refine wpL_ind I ?_ (jpos (L0.map (·.2))) _ ((hI _ _).2 ⟨_, H0, L0, (by first | rfl | (simp [ha]; done) | (simp [ha]; rfl) | (simp [ha]; and_intros <;> rfl)), by simp, by simp, rfl, hD0, hJ0, hL0l, ⟨jpos (L0.map (·.2)), Nat.le_refl _, by rw [← hS, jdec, hLs]⟩, (fun x hx => by have : x.2.2 = [] := l0_nil hL0 hx; rw [this]; simp only [List.length_nil]; omega)⟩)
  intro k stI hstI
  obtain ⟨e, G, L, rfl, e5, e6, hk, hG, hJ, hLl, hm, hb⟩ := (hI _ _).1 hstI
  subst hk
  obtain ⟨v, K2, hRd, hv, hKl, L2, hD2, hL2l, hL2⟩ := jn_round hG hJ hLl hn64 (fun x hx => by have := hb x hx; omega)
  subst hv
  cases hf : jfind (L.map (·.2)) with
  | none =>
    have hj : jround (L.map (·.2)) = none := by rw [jround, hf]; rfl
    rw [hj] at hRd hL2
    simp only [Option.isSome_none, Option.getD_none] at hRd hL2
    simp -implicitDefEqProofs [e5, e6, hRd, vmove, isNil, hD2.top, topT_len, hL2l, hLl]
    obtain ⟨m, hm1, hm2⟩ := hm
    rw [jall_none hf, ← hL2] at hm2
    subst hm2
    have hbl : ∀ x ∈ L2, x.2.2.length ≤ 6000 := fun x hx => by
      obtain ⟨j, hj, rfl⟩ := List.getElem_of_mem hx
      have hjL : j < L.length := by omega
      have h1 := hb _ (List.getElem_mem hjL)
      have h2 : L2[j].2 = L[j].2 := by
        have : (L2.map (·.2))[j]'(by simpa using hj) = (L.map (·.2))[j]'(by simpa using hjL) := by simp only [hL2]
        simpa using this
      rw [h2]; omega
    have hL2n : L2.length = l.length := hL2l.trans hLl
    obtain ⟨J, hJ⟩ : ∃ J : Nat → St → Prop, ∀ k s', J k s' ↔ (∃ e G i, s' = ⟨e, G⟩ ∧ e 5 = .one (.sl a 0 l.length l.length) ∧ e 6 = .one (.sl (a + 1) 0 l.length l.length) ∧ e 24 = .one (.sl (a + 1) 0 l.length l.length) ∧ e 25 = vI .i64 l.length ∧ e 26 = vI .i64 (i : Nat) ∧ (i + k = l.length) ∧ (DH G a (a + 1) (sortTo L2 i))) := ⟨_, fun _ _ => Iff.rfl⟩
    refine wpL_ind J ?_ l.length _ ((hJ _ _).2 ⟨_, K2, 0, (by first | rfl | (simp [e5, e6]; done) | (simp [e5, e6]; rfl) | (simp [e5, e6]; and_intros <;> rfl)), by simp [e5], by simp [e6], by simp, by simp, by simp, by omega, by rw [sortTo_zero]; exact hD2⟩)
    clear e5 e6 hG
    intro k stJ hstJ
    obtain ⟨e, G, i, rfl, e5, e6, e24, e25, e26, hi, hG⟩ := (hJ _ _).1 hstJ
    by_cases c : i < l.length
    · have c' : (i : Int) < l.length := by omega
      have hiL : i < L2.length := by omega
      have hiM : i < (sortTo L2 i).length := by rw [sortTo_len]; exact hiL
      obtain ⟨x, hx⟩ : ∃ x, L2[i] = x := ⟨_, rfl⟩
      have hMi : (sortTo L2 i)[i] = x := by rw [sortTo_get hiM hiL (Nat.le_refl _), hx]
      have hxb := hbl x (hx ▸ List.getElem_mem hiL)
      have htT : (topT (sortTo L2 i))[i]? = some [.sl x.1 0 x.2.2.length x.2.2.length] := by simp [topT, List.getElem?_eq_getElem hiM, hMi]
      have hr := hG.row i hiM
      rw [hMi] at hr
      have hso := sort_strs hr (by omega)
      have hN := hG.sort hiM hMi
      have hN2 : (sortTo L2 i).set i (x.1, (x.2.1, ssort x.2.2)) = sortTo L2 (i + 1) := by rw [sortTo_succ hiL, hx]
      rw [hN2] at hN
      obtain ⟨G2, hG2⟩ : ∃ G2, G.set x.1 (.clo ((ssort x.2.2).map cStr) false) = G2 := ⟨_, rfl⟩
      rw [hG2] at hN hso
      have w_i : IntKind.i64.wrap ((i : Int) + 1) = ((i + 1 : Nat) : Int) := by rw [w64_id (by omega) (by omega)]; omega
      simp -implicitDefEqProofs [e24, e25, e26, c', hG.top, topT_len, sortTo_len, hL2n, htT, hso, vmove, isNil]
      refine ⟨c, ?_⟩
      exact ⟨(k - 1), by omega, (hJ _ _).2 ⟨_, G2, i + 1, (by first | rfl | (simp [e5, e6, e24, e25, w_i]; done) | (simp [e5, e6, e24, e25, w_i]; rfl) | (simp [e5, e6, e24, e25, w_i]; and_intros <;> rfl)), by simp [e5, w_i], by simp [e6, w_i], by simp [e24, w_i], by simp [e25, w_i], by simp [w_i], by omega, hN⟩⟩
    · have c' : ¬ (i : Int) < l.length := by omega
      have hi' : i = l.length := by omega
      subst hi'
      have hf1 := hG.fz1 (n := l.length) (by rw [sortTo_len, hL2n])
      have hf2 := hG.rad
      have hsa := sortTo_all (L := L2) (k := l.length) (by omega)
      have hs1 : (sortTo L2 l.length).map (·.2.2) = (L2.map (·.2)).map fun x => ssort x.2 := by
        have := congrArg (List.map fun x : Sw => x.2) hsa
        rw [List.map_map, List.map_map] at this
        exact this
      have hs2 : (sortTo L2 l.length).map (fun x => cRad x.2.1) = ((L2.map (·.2)).map (·.1)).map cRad := by
        have := congrArg (List.map fun x : Sw => cRad x.1) hsa
        rw [List.map_map, List.map_map] at this
        rw [List.map_map]
        exact this
      rw [hs1] at hf1
      rw [hs2] at hf2
      obtain ⟨S, hS2⟩ : ∃ S, L2.map (·.2) = S := ⟨_, rfl⟩
      have hSl : S.length = l.length := by rw [← hS2, List.length_map, hL2n]
      rw [hS2] at hf1 hf2 ⊢
      have hf3 : fzc 5 G (.sl a 0 l.length l.length) = some (cRads (S.map (·.1))) := by
        unfold fzc
        simp only [hf2, List.length_map, hSl, if_true, List.drop_zero]
        rw [List.take_of_length_le (by simp [hSl])]
        rfl
      simp -implicitDefEqProofs [-fzc, e5, e6, e25, e26, c', hf1, hf3, fz_v, decA, vmove, isNil]
  | some r =>
    obtain ⟨i, key⟩ := r
    have hj : jround (L.map (·.2)) = some ((L.map (·.2)).mapIdx (jtake i key)) := by rw [jround, hf]; rfl
    rw [hj] at hRd hL2
    simp only [Option.isSome_some, Option.getD_some] at hRd hL2
    simp -implicitDefEqProofs [e5, e6, hRd, vmove, isNil]
    have hlt := jpos_lt hf
    rw [← hL2] at hlt
    obtain ⟨m, hm1, hm2⟩ := hm
    obtain ⟨m', rfl⟩ : ∃ m', m = m' + 1 := ⟨m - 1, by omega⟩
    rw [jall_some hf, ← hL2] at hm2
    have hb2 : ∀ x ∈ L2, x.2.2.length + jpos (L2.map (·.2)) ≤ 6000 := fun x hx => by
      obtain ⟨j, hj, rfl⟩ := List.getElem_of_mem hx
      have hjL : j < L.length := by omega
      have h1 := hb _ (List.getElem_mem hjL)
      have h2 : L2[j].2 = jtake i key j L[j].2 := by
        have : (L2.map (·.2))[j]'(by simpa using hj) = ((L.map (·.2)).mapIdx (jtake i key))[j]'(by simpa using hjL) := by simp only [hL2]
        simpa using this
      rw [h2]
      have h3 : (jtake i key j L[j].2).2.length ≤ L[j].2.2.length + 1 := by
        unfold jtake
        split
        · simp
        · omega
      omega
    exact ⟨(jpos (L2.map (·.2))), by omega, (hI _ _).2 ⟨_, K2, L2, (by first | rfl | (simp [e5, e6]; done) | (simp [e5, e6]; rfl) | (simp [e5, e6]; and_intros <;> rfl)), by simp [e5], by simp [e6], rfl, hD2, by rw [hL2]; exact jmap_ok hJ, hL2l.trans hLl, ⟨m', by omega, hm2⟩, hb2⟩⟩
end Go.Proofs.YtmgnmnogiajlgaaF
end

section
/- Joint: Reports. -/
set_option maxRecDepth 8192
set_option maxHeartbeats 2000000
namespace Go.Proofs.YtmgnmnogiajlgaaF
open Go Go.Proofs.Vm

abbrev Rp := List Ct × Bool
def cRep (r : Rp) : List CV := [cCts r.1, .v (.bool r.2)]
def cReps (l : List Rp) : CV := .arr (l.map cRep)
def rep1 (R : Rad) (x : Sw) : Rp := if (countsF R (ssort x.2)).1 = 0 ∧ emptyB x.1 = true then ((countsF R (ssort x.2)).2, true) else ([], false)
def repF (l : List Rad) : List Rp := List.zipWith rep1 l (jdec l)
theorem jall_len : ∀ (n : Nat) (L : List Sw), (jall n L).length = L.length
  | 0, _ => rfl
  | n + 1, L => by
    cases hf : jfind L with
    | none => rw [jall_none hf]
    | some r => rw [jall_some hf, jall_len n]; simp
theorem jall_told : ∀ (n : Nat) {L : List Sw} {c : Nat}, (∀ x ∈ L, x.2.length ≤ c) → ∀ x ∈ jall n L, x.2.length ≤ c + n
  | 0, _, _, h, x, hx => h x hx
  | n + 1, L, c, h, x, hx => by
    cases hf : jfind L with
    | none => rw [jall_none hf] at hx; have := h x hx; omega
    | some r =>
      rw [jall_some hf] at hx
      have := jall_told n (c := c + 1) (fun y hy => by
        obtain ⟨j, hj, rfl⟩ := List.getElem_of_mem hy
        have hjL : j < L.length := by simpa using hj
        rw [List.getElem_mapIdx]
        have h1 := h _ (List.getElem_mem hjL)
        unfold jtake
        split
        · simp; omega
        · omega) x hx
      omega
theorem jdec_len (l : List Rad) : (jdec l).length = l.length := by unfold jdec; rw [jall_len]; simp
theorem jdec_ok {l : List Rad} (hs : ∀ R ∈ l, Seeds R ∧ Lens R) (h : decOk l = true) : JOk (jdec l) ∧ ∀ x ∈ jdec l, x.2.length ≤ 6000 := by
  have h3 : l.length ≤ 3 ∧ l.all rOk = true := by simpa [decOk] using h
  have hJ0 : JOk (l.map fun r => (r, [])) := by
    intro x hx
    obtain ⟨R, hR, rfl⟩ := List.mem_map.1 hx
    exact ⟨(hs R hR).1, (hs R hR).2, List.all_eq_true.1 h3.2 R hR⟩
  have hp0 := jpos_le hJ0
  rw [List.length_map] at hp0
  have : 1792 * l.length ≤ 1792 * 3 := Nat.mul_le_mul_left _ h3.1
  refine ⟨jall_ok _ hJ0, fun x hx => ?_⟩
  have := jall_told _ (L := l.map fun r => (r, [])) (c := 0) (fun y hy => by obtain ⟨R, hR, rfl⟩ := List.mem_map.1 hy; simp) x hx
  omega
theorem st_rep {H : Hp} {a k n : Nat} {l : List Rp} {r : Rp} (h : H[a]? = some (.clo (l.map cRep) false)) (hk : k < l.length) (hn : l.length = n) :
    vstore Try.prog false H 46 (.one (.ptr ⟨a, k, 0, n⟩)) (.agg [.c (cCts r.1), .c (.v (.bool r.2))]) = some (H.set a (.clo ((l.set k r).map cRep) false)) := by
  subst hn
  have e : (List.map cRep l).modify k (fun e => Vm.wr e 0 (cRep r)) = List.map cRep (l.set k r) := by
    rw [List.map_set]
    apply List.ext_getElem (by simp)
    intro i h1 h2
    rw [List.getElem_modify, List.getElem_set]
    by_cases c : k = i
    · subst c; simp [cRep, wr]
    · rw [if_neg c, if_neg c]
  simp only [cRep, cCts] at h e
  simp [vstore, cellsOf?, h, hk, hasRef, Ent.wrC, cCts, e, cRep]
theorem jn_Reports_no {l : List Rad} (hs : ∀ R ∈ l, Seeds R ∧ Lens R) (hl : l.length < 4611686018427387904) (h : decOk l = false) : TV.pu 9 [.one (cRads l)] = some (.tup [(false, [.arr []]), (false, [.v (.int .i64 1)])]) := by
  refine run9 (by simp) ?_
  have hD := jn_Decode_no hs hl h
  simp only [cRads] at hD
  simp -implicitDefEqProofs [Try.f9, cRads, vmove, isNil, hD]
def repTo (l : List Rad) (S : List Sw) (i : Nat) : List Rp := (List.zipWith rep1 l S).mapIdx fun j x => if j < i then x else ([], false)
theorem jn_Reports {l : List Rad} (hs : ∀ R ∈ l, Seeds R ∧ Lens R) (h0 : l ≠ []) (h : decOk l = true) : TV.pu 9 [.one (cRads l)] = some (.tup [(false, [cReps (repF l)]), (false, [.v (.int .i64 0)])]) := by
  refine run9 (by simp) ?_
  have hD := jn_Decode hs h0 h
  have hSl := jdec_len l
  obtain ⟨hJ, hB⟩ := jdec_ok hs h
  have h3 : l.length ≤ 3 ∧ l.all rOk = true := by simpa [decOk] using h
  have hl0 : 0 < l.length := List.length_pos_iff.2 h0
  unfold repF
  obtain ⟨S, hS⟩ : ∃ S, jdec l = S := ⟨_, rfl⟩
  rw [hS] at hD hSl hJ hB ⊢
  simp only [cRads, decA, cTold, cSs] at hD
  have hmk : ∀ nid, vmakeSlice Try.prog false nid 41 (vI .i64 l.length) (vI .i64 l.length) = some (.one (.sl nid 0 l.length l.length), [.clo ((repTo l S 0).map cRep) false], []) := fun nid => by
    rw [vmakeSlice_eq es41 el46, if_pos ⟨by omega, rfl, by simp [small]; omega, by omega⟩]
    have : (repTo l S 0).map cRep = List.replicate l.length [.arr [], .v (.bool false)] := by
      apply List.ext_getElem (by simp [repTo, hSl])
      intro i h1 h2
      simp [repTo, cRep, cCts]
    rw [this]
    simp
  simp -implicitDefEqProofs [Try.f9, cRads, vmove, isNil, hD, hmk]
  obtain ⟨I, hI⟩ : ∃ I : Nat → St → Prop, ∀ k s', I k s' ↔ (∃ e G d i, s' = ⟨e, G⟩ ∧ e 0 = .one (.c (cRads l)) ∧ e 4 = .one (.c (cTold (S.map fun x => ssort x.2))) ∧ e 5 = .one (.c (cRads (S.map (·.1)))) ∧ e 7 = .one (.sl d 0 l.length l.length) ∧ e 24 = vI .i64 l.length ∧ e 25 = vI .i64 (i : Nat) ∧ (i + k = l.length) ∧ (G[d]? = some (.clo ((repTo l S i).map cRep) false))) := ⟨_, fun _ _ => Iff.rfl⟩
  refine wpL_ind I ?_ l.length _ ((hI _ _).2 ⟨_, _, 1, 0, (by first | rfl | (simp [cRads, cTold, cSs]; done) | (simp [cRads, cTold, cSs]; rfl) | (simp [cRads, cTold, cSs]; and_intros <;> rfl)), by simp [cRads], by simp [cTold, cSs], by simp [cRads], by simp, by simp, by simp, by omega, rfl⟩)
  intro k stI hstI
  obtain ⟨e, G, d, i, rfl, e0, e4, e5, e7, e24, e25, hi, hG⟩ := (hI _ _).1 hstI
  have hZl : (List.zipWith rep1 l S).length = l.length := by simp [hSl]
  have hrl : ∀ q, (repTo l S q).length = l.length := fun q => by simp [repTo, hSl]
  by_cases c : i < l.length
  · have c' : (i : Int) < l.length := by omega
    have hiS : i < S.length := by omega
    obtain ⟨R, hR⟩ : ∃ R, l[i] = R := ⟨_, rfl⟩
    obtain ⟨x, hx⟩ : ∃ x, S[i] = x := ⟨_, rfl⟩
    have hli : l[i]? = some R := by rw [List.getElem?_eq_getElem c, hR]
    have hSi : S[i]? = some x := by rw [List.getElem?_eq_getElem hiS, hx]
    have hRm : R ∈ l := hR ▸ List.getElem_mem c
    have hxm : x ∈ S := hx ▸ List.getElem_mem hiS
    have hCt := jn_Counts (keys := ssort x.2) (hs R hRm).1 (hs R hRm).2 (by rw [ssort_len]; have := hB x hxm; omega)
    have hEm := rd_Empty (hJ x hxm).1 (hJ x hxm).2.1
    have hri : i < (repTo l S i).length := by rw [hrl]; exact c
    have hz : (List.zipWith rep1 l S)[i]'(by omega) = rep1 R x := by simp [hR, hx]
    have hnx : repTo l S (i + 1) = (repTo l S i).set i (rep1 R x) := by
      apply List.ext_getElem (by simp [repTo])
      intro j h1 h2
      rw [List.getElem_set]
      simp only [repTo, List.getElem_mapIdx]
      by_cases e : i = j
      · subst e; rw [if_pos (by omega), if_pos rfl, hz]
      · rw [if_neg e]
        by_cases e2 : j < i
        · rw [if_pos e2, if_pos (by omega)]
        · rw [if_neg e2, if_neg (by omega)]
    have hno : rep1 R x = ([], false) → repTo l S (i + 1) = repTo l S i := fun h => by
      rw [hnx, h]
      apply List.ext_getElem (by simp)
      intro j h1 h2
      rw [List.getElem_set]
      split
      · rename_i e; subst e
        simp [repTo]
      · rfl
    have hGd := (List.getElem?_eq_some_iff.1 hG).1
    have hG1 : (G ++ [Ent.clo [] false])[d]? = some (.clo ((repTo l S i).map cRep) false) := by rw [List.getElem?_append_left hGd]; exact hG
    have hGp : ∀ T : Hp, (G ++ T)[d]? = some (.clo ((repTo l S i).map cRep) false) := fun T => by rw [List.getElem?_append_left hGd]; exact hG
    have hri' : (repTo l S i)[i]? = some (repTo l S i)[i] := List.getElem?_eq_getElem hri
    have hst := fun r => st_rep (r := r) hG1 hri (hrl i)
    unfold rep1 at hnx hno
    obtain ⟨er, fl, hcf⟩ : ∃ er fl, countsF R (ssort x.2) = (er, fl) := ⟨_, _, rfl⟩
    rw [hcf] at hCt hnx hno
    obtain ⟨em, hem⟩ : ∃ em, emptyB x.1 = em := ⟨_, rfl⟩
    rw [hem] at hEm hnx hno
    dsimp only at hnx hno
    have w_i : IntKind.i64.wrap ((i : Int) + 1) = ((i + 1 : Nat) : Int) := by rw [w64_id (by omega) (by omega)]; omega
    simp only [cRad, cRws, cRw, cSs, countsA] at hCt hEm
    by_cases he0 : er = 0
    · subst he0
      cases em with
      | true =>
        rw [if_pos ⟨rfl, rfl⟩] at hnx
        have hst := hst (fl, true)
        rw [← hnx] at hst
        obtain ⟨G2, hG2⟩ : ∃ G2, (G ++ [Ent.clo [] false]).set d (.clo ((repTo l S (i + 1)).map cRep) false) = G2 := ⟨_, rfl⟩
        have hG2d : G2[d]? = some (.clo ((repTo l S (i + 1)).map cRep) false) := by rw [← hG2]; exact set_self hG1
        rw [hG2] at hst
        simp only [cCts] at hst
        simp -implicitDefEqProofs [e0, e4, e5, e7, e24, e25, c', hli, hSi, cRads, cTold, cRad, cRws, cRw, cSs, cCts, hCt, hEm, hGp, hrl, hri', hst, cellsOf?, ownz, wr, vmove, isNil]
        refine ⟨c, rfl, ?_⟩
        exact ⟨(k - 1), by omega, (hI _ _).2 ⟨_, G2, d, i + 1, (by first | rfl | (simp [e0, e4, e5, e7, e24, cRads, cTold, cSs, w_i]; done) | (simp [e0, e4, e5, e7, e24, cRads, cTold, cSs, w_i]; rfl) | (simp [e0, e4, e5, e7, e24, cRads, cTold, cSs, w_i]; and_intros <;> rfl)), by simp [e0, cRads, w_i], by simp [e4, cTold, cSs, w_i], by simp [e5, cRads, w_i], by simp [e7, w_i], by simp [e24, w_i], by simp [w_i], by omega, hG2d⟩⟩
      | false =>
        have hno := hno (by simp)
        simp -implicitDefEqProofs [e0, e4, e5, e24, e25, c', hli, hSi, cRads, cTold, cRad, cRws, cRw, cSs, cCts, hCt, hEm, vmove, isNil]
        exact ⟨(k - 1), by omega, (hI _ _).2 ⟨_, G, d, i + 1, (by first | rfl | (simp [e0, e4, e5, e7, e24, cRads, cTold, cSs, w_i]; done) | (simp [e0, e4, e5, e7, e24, cRads, cTold, cSs, w_i]; rfl) | (simp [e0, e4, e5, e7, e24, cRads, cTold, cSs, w_i]; and_intros <;> rfl)), by simp [e0, cRads, w_i], by simp [e4, cTold, cSs, w_i], by simp [e5, cRads, w_i], by simp [e7, w_i], by simp [e24, w_i], by simp [w_i], by omega, by rw [hno]; exact hG⟩⟩
    · have hno := hno (by simp [he0])
      simp -implicitDefEqProofs [e0, e4, e24, e25, c', hli, hSi, cRads, cTold, cRad, cRws, cRw, cSs, cCts, hCt, he0, vmove, isNil]
      exact ⟨(k - 1), by omega, (hI _ _).2 ⟨_, G, d, i + 1, (by first | rfl | (simp [e0, e4, e5, e7, e24, cRads, cTold, cSs, w_i]; done) | (simp [e0, e4, e5, e7, e24, cRads, cTold, cSs, w_i]; rfl) | (simp [e0, e4, e5, e7, e24, cRads, cTold, cSs, w_i]; and_intros <;> rfl)), by simp [e0, cRads, w_i], by simp [e4, cTold, cSs, w_i], by simp [e5, cRads, w_i], by simp [e7, w_i], by simp [e24, w_i], by simp [w_i], by omega, by rw [hno]; exact hG⟩⟩
  · have c' : ¬ (i : Int) < l.length := by omega
    have hi' : i = l.length := by omega
    subst hi'
    have hall : repTo l S l.length = List.zipWith rep1 l S := by
      apply List.ext_getElem (by simp [repTo])
      intro j h1 h2
      simp only [repTo, List.getElem_mapIdx]
      rw [if_pos (by omega)]
    rw [hall] at hG
    have htk : List.take l.length ((List.zipWith rep1 l S).map cRep) = (List.zipWith rep1 l S).map cRep := List.take_of_length_le (by rw [List.length_map]; omega)
    simp -implicitDefEqProofs [e7, e24, e25, c', hG, hSl, vmove, isNil, cReps]
    rw [List.take_of_length_le (by simp [hSl])]
end Go.Proofs.YtmgnmnogiajlgaaF
end

section
/- One key alone; a fixed answer. -/
set_option maxRecDepth 8192
set_option maxHeartbeats 1000000
namespace Go.Proofs.YtmgnmnogiajlgaaF
open Go Go.Proofs.Vm

def aK (k : ByteArray) (L : List Pkt) : List ByteArray := if L = [] then [] else [k]
theorem freshB_enc {s h : Int} {bits rows cols : Nat} {K : List ByteArray} {L : List Pkt} {k : ByteArray} : freshB (encRad s h bits rows cols K L) k = !hasB (hrow s 0) h (bitsOf (hrow s 0) h bits L) k := rfl
theorem add_alone {s h : Int} {bits rows cols : Nat} (hd : Dim h bits rows cols) {L : List Pkt} {k : ByteArray} {b : Int} (hL : ∀ x ∈ L, x.1 = k) : addRad (encRad s h bits rows cols (aK k L) L) k b = encRad s h bits rows cols (aK k (L ++ [(k, b)])) (L ++ [(k, b)]) := by
  rw [encRad_add hd.1]
  congr 1
  have hne : L ++ [(k, b)] ≠ [] := by simp
  by_cases hL0 : L = []
  · subst hL0
    have hf : freshB (encRad s h bits rows cols (aK k []) []) k = true := by rw [freshB_enc, hasB_nil hd.1 hd.2.2.1]; rfl
    rw [if_pos hf]
    simp [aK]
  · have hf : freshB (encRad s h bits rows cols (aK k L) L) k = false := by
      rw [freshB_enc, hasB_of hd.1]
      · rfl
      · cases L with
        | nil => exact absurd rfl hL0
        | cons x t => exact ⟨x.2, by rw [← hL x List.mem_cons_self]; exact List.mem_cons_self⟩
    rw [if_neg (by rw [hf]; decide)]
    simp [aK, hL0]
theorem pure_alone {s h : Int} {bits rows cols : Nat} (hd : Dim h bits rows cols) {L : List Pkt} {k : ByteArray} (hk : k.size = 37) (hL : ∃ b, (k, b) ∈ L) : pureOf (encRad s h bits rows cols [k] L) [] ≠ none := by
  obtain ⟨d1, d2, d3, d4, d5, d6, d7, d8⟩ := hd
  intro hn
  have hp := pln_lt (s := s) (i := 0) d7 k
  have h1 := List.findSome?_eq_none_iff.1 hn 0 (List.mem_range.2 (by show 0 < (encRows s rows cols [k] L).length; rw [encRows_len]; omega))
  have e : (encRad s h bits rows cols [k] L).rows.getD 0 [] = encRow (pln s 0 cols) [k] L cols := by
    have : 0 < (encRows s rows cols [k] L).length := by rw [encRows_len]; omega
    show (encRows s rows cols [k] L).getD 0 [] = _
    rw [List.getD_eq_getElem?_getD, List.getElem?_eq_getElem this, Option.getD_some, encRows_get]
  unfold pureR at h1
  rw [e, encRow_len] at h1
  have h2 := List.findSome?_eq_none_iff.1 h1 (pln s 0 cols k) (List.mem_range.2 hp)
  have hq : pln s 0 cols k < (encRow (pln s 0 cols) [k] L cols).length := by rw [encRow_len]; exact hp
  rw [List.getD_eq_getElem?_getD, List.getElem?_eq_getElem hq, Option.getD_some, encRow_get] at h2
  have hc1 : (encC (pln s 0 cols) [k] L (pln s 0 cols k)).1 = k := by
    simp only [encC]
    rw [List.filter_cons, if_pos (by simp), List.filter_nil, xorA_one hk]
  have hc2 : (encC (pln s 0 cols) [k] L (pln s 0 cols k)).2.1 = 1 := by simp [encC]
  have hok : okC (encRad s h bits rows cols [k] L) [] 0 cols (pln s 0 cols k) (encC (pln s 0 cols) [k] L (pln s 0 cols k)) = true := by
    unfold okC
    rw [hc1, hc2]
    have h3 : rplc (encRad s h bits rows cols [k] L) k 0 cols = ((pln s 0 cols k : Nat) : Int) := by
      have := hcell_range (hrow s ((0 : Nat) + 1)) k (cols : Int) (by omega)
      show hcell (hrow s ((0 : Nat) + 1)) k (cols : Int) = (((hcell (hrow s ((0 : Nat) + 1)) k (cols : Int)).toNat : Nat) : Int)
      omega
    have h4 : hasB (encRad s h bits rows cols [k] L).fs (encRad s h bits rows cols [k] L).h (encRad s h bits rows cols [k] L).bits k = true := hasB_of d1 hL
    rw [h3, h4]
    simp
  rw [if_pos hok] at h2
  exact absurd h2 (by simp)
theorem peel_alone {s h : Int} {bits rows cols : Nat} (hd : Dim h bits rows cols) {L : List Pkt} {k : ByteArray} (hk : k.size = 37) (hL : ∃ b, (k, b) ∈ L) : peel (encRad s h bits rows cols [k] L) = ([k], encRad s h bits rows cols [] L) := by
  obtain ⟨T, K', h1, h2, h3⟩ := peel_enc (s := s) (h := h) (bits := bits) (rows := rows) (cols := cols) (L := L) (K := [k]) (fun x hx => by rw [List.mem_singleton.1 hx]; exact hk)
  rw [h1]
  cases T with
  | nil =>
    have : K' = [k] := List.perm_singleton.1 h2.symm
    subst this
    exact absurd h3 (pure_alone hd hk hL)
  | cons x T =>
    have hl := h2.length_eq
    simp only [List.length_cons, List.length_nil, List.length_append] at hl
    obtain rfl : T = [] := List.length_eq_zero_iff.1 (by omega)
    obtain rfl : K' = [] := List.length_eq_zero_iff.1 (by omega)
    have : [x] = [k] := List.perm_singleton.1 h2.symm
    rw [this]
    rw [show ssort [k] = [k] from ssort_of_srt (List.pairwise_singleton _ _)]
theorem peel_none {s h : Int} {bits rows cols : Nat} {L : List Pkt} : peel (encRad s h bits rows cols [] L) = ([], encRad s h bits rows cols [] L) := by
  obtain ⟨T, K', h1, h2, h3⟩ := peel_enc (s := s) (h := h) (bits := bits) (rows := rows) (cols := cols) (L := L) (K := []) (fun x hx => by simp at hx)
  have hl := h2.length_eq
  simp only [List.length_nil, List.length_append] at hl
  obtain rfl : T = [] := List.length_eq_zero_iff.1 (by omega)
  obtain rfl : K' = [] := List.length_eq_zero_iff.1 (by omega)
  rw [h1, ssort_nil]

def aKey : ByteArray := ⟨#[48, 49, 50, 51, 52, 53, 54, 55, 56, 57, 97, 98, 99, 100, 101, 102, 48, 49, 50, 51, 52, 53, 54, 55, 56, 57, 97, 98, 99, 100, 101, 102, 17, 0, 1, 0, 2]⟩
end Go.Proofs.YtmgnmnogiajlgaaF
end

section
/- Joint: the counts of what came; one switch alone. -/
set_option maxRecDepth 8192
set_option maxHeartbeats 1000000
namespace Go.Proofs.YtmgnmnogiajlgaaF
open Go Go.Proofs.Vm Go.Proofs.Vm.Fld

theorem dot_redR : ∀ (r y : List Int), PP ∣ dot (redR r) y - dot r y
  | [], y => by simp [redR, dot_nil]
  | a :: r, [] => by simp [redR, dot_nil']
  | a :: r, b :: y => by
    have h1 := dot_redR r y
    have h2 := dvd_emod PP a
    have e : dot (redR (a :: r)) (b :: y) - dot (a :: r) (b :: y) = (a % PP - a) * b + (dot (redR r) y - dot r y) := by
      show (a % PP * b + dot (redR r) y) - (a * b + dot r y) = _
      rw [Int.sub_mul]
      omega
    rw [e]
    exact Int.dvd_add (Int.dvd_mul_of_dvd_left h2) h1
theorem ann_red {M : List (List Int)} {y : List Int} : Ann PP (M.map redR) y ↔ Ann PP M y := by
  constructor
  · intro h r hr
    have h1 := h (redR r) (List.mem_map.2 ⟨r, hr, rfl⟩)
    have h2 := dot_redR r y
    have := Int.dvd_sub h1 h2
    rwa [show dot (redR r) y - (dot (redR r) y - dot r y) = dot r y by omega] at this
  · intro h r hr
    obtain ⟨x, hx, rfl⟩ := List.mem_map.1 hr
    have := Int.dvd_add (dot_redR x y) (h x hx)
    rwa [show dot (redR x) y - dot x y + dot x y = dot (redR x) y by omega] at this
theorem wOf_bound {w : Pkt → Int} {B : Int} {L : List Pkt} (hw : ∀ x ∈ L, 0 ≤ w x ∧ w x ≤ B) (k : ByteArray) : 0 ≤ wOf w L k ∧ wOf w L k ≤ (L.length : Int) * B := by
  unfold wOf
  have h1 := sum_bound (b := B) (l := (L.filter fun x => decide (x.1 = k)).map w) (fun y hy => by
    obtain ⟨x, hx, rfl⟩ := List.mem_map.1 hy
    exact hw x (List.mem_filter.1 hx).1)
  refine ⟨h1.1, Int.le_trans h1.2 ?_⟩
  rw [List.length_map]
  by_cases hB : 0 ≤ B
  · exact Int.mul_le_mul_of_nonneg_right (by have := List.length_filter_le (fun x : Pkt => decide (x.1 = k)) L; omega) hB
  · cases L with
    | nil => simp
    | cons x t => have := hw x List.mem_cons_self; omega
theorem one_sol {m : List (List Int)} {b : List Int} {n : Nat} {x : List Int} (hT : Fld.Told PP ((wideR m b).map redR) n (solR m b n)) (h0 : (solR m b n).1 = 0) (hx : x.length = n) (ha : Ann PP (wideR m b) (x ++ [-1])) (hb : ∀ j, 0 ≤ at0 x j ∧ at0 x j < PP) : ∀ j, j < n → at0 (solR m b n).2 j = at0 x j := fun j hj => by
  obtain ⟨h1, h2, h3, h4⟩ := hT.one h0
  have hd := h4 x (-1) hx (ann_red.2 ha) j hj
  have hr : 0 ≤ at0 (solR m b n).2 j ∧ at0 (solR m b n).2 j < PP := by
    rw [at0_get (by omega)]; exact h2 _ (List.getElem_mem _)
  have hbx := hb j
  obtain ⟨t, ht⟩ := hd
  have : t = 0 := by
    have h5 : PP * t < PP * 1 := by omega
    have h6 : PP * (-1) < PP * t := by omega
    have := Int.lt_of_mul_lt_mul_left h5 (by decide)
    have := Int.lt_of_mul_lt_mul_left h6 (by decide)
    omega
  rw [this] at ht
  omega
theorem at0_keys {keys : List ByteArray} {f : ByteArray → Int} {j : Nat} (hj : j < keys.length) : at0 (keys.map f) j = f keys[j] := by
  rw [at0_get (by simpa using hj), List.getElem_map]
/-- The counts of what came are those that came. -/
theorem counts_enc {s h : Int} {bits rows cols : Nat} (hd : Dim h bits rows cols) {K keys : List ByteArray} {L : List Pkt} (hn : keys.Nodup) (hL : ∀ x ∈ L, x.1 ∈ keys) (hl : L.length ≤ 1000) (hb : ∀ x ∈ L, 0 ≤ x.2 ∧ x.2 ≤ 1073741824) (h0 : (countsF (encRad s h bits rows cols K L) keys).1 = 0) :
    (countsF (encRad s h bits rows cols K L) keys).2 = keys.map fun k => (k, wOf (fun _ => 1) L k, wOf (·.2) L k) := by
  have hrw : ∀ x ∈ (encRad s h bits rows cols K L).rows, x.length = cols := fun x hx => by
    have hx : x ∈ encRows s rows cols K L := hx
    obtain ⟨j, hj, rfl⟩ := List.getElem_of_mem hx
    rw [encRows_get, encRow_len]
  have hrl : (encRad s h bits rows cols K L).rows.length = rows := encRows_len ..
  have hE := enc_ann (s := s) (h := h) (bits := bits) (rows := rows) (cols := cols) (K := K) hd.2.2.2.2.2.2.1 hn hL PP
  have hw1 : ∀ k, 0 ≤ wOf (fun _ => 1) L k ∧ wOf (fun _ => 1) L k < PP := fun k => by
    have := wOf_bound (w := fun _ => 1) (B := 1) (L := L) (fun x hx => by omega) k
    show _ ∧ _ < (2305843009213693951 : Int)
    omega
  have hw2 : ∀ k, 0 ≤ wOf (·.2) L k ∧ wOf (·.2) L k < PP := fun k => by
    have := wOf_bound (w := (·.2)) (B := 1073741824) (L := L) hb k
    show _ ∧ _ < (2305843009213693951 : Int)
    have : (L.length : Int) * 1073741824 ≤ 1000 * 1073741824 := Int.mul_le_mul_of_nonneg_right (by omega) (by omega)
    omega
  obtain ⟨R, hR⟩ : ∃ R, encRad s h bits rows cols K L = R := ⟨_, rfl⟩
  rw [hR] at h0 hE hrw hrl ⊢
  have hml : (eqAll R keys).length = R.rows.length * cols := eqTo_len hrw _ (Nat.le_refl _)
  have hfl : R.rows.flatten.length = R.rows.length * cols := by
    have : ∀ l : List (List RCl), (∀ x ∈ l, x.length = cols) → l.flatten.length = l.length * cols := fun l => by
      induction l with
      | nil => intro _; simp
      | cons a t ih =>
        intro h
        rw [List.flatten_cons, List.length_append, ih fun x hx => h x (List.mem_cons_of_mem _ hx), h a List.mem_cons_self, List.length_cons, Nat.add_mul, Nat.one_mul]
        omega
    exact this _ hrw
  have hT1 := solR_told (m := eqAll R keys) (b := rhs R pkF) (n := keys.length) (fun r hr => (eqAll_row R keys r hr).1) (by rw [hml, rhs, List.length_map, hfl])
  have hT2 := solR_told (m := eqAll R keys) (b := rhs R byF) (n := keys.length) (fun r hr => (eqAll_row R keys r hr).1) (by rw [hml, rhs, List.length_map, hfl])
  have at_b : ∀ (f : ByteArray → Int), (∀ k, 0 ≤ f k ∧ f k < PP) → ∀ j, 0 ≤ at0 (keys.map f) j ∧ at0 (keys.map f) j < PP := fun f hf j => by
    by_cases hj : j < keys.length
    · rw [at0_keys hj]; exact hf _
    · unfold at0
      rw [List.getD_eq_getElem?_getD, List.getElem?_eq_none (by simpa using hj)]
      simp [PP]
  unfold countsF at h0 ⊢
  by_cases c1 : rOk R = false
  · rw [if_pos c1] at h0; cases h0
  rw [if_neg c1] at h0 ⊢
  by_cases c2 : keysOk keys = false
  · rw [if_pos c2] at h0; cases h0
  rw [if_neg c2] at h0 ⊢
  by_cases c3 : 32 < R.rows.length * (R.rows.headD []).length ∨ 32 < keys.length
  · rw [if_pos c3] at h0; cases h0
  rw [if_neg c3] at h0 ⊢
  by_cases c4 : (solR (eqAll R keys) (rhs R pkF) keys.length).1 ≠ 0
  · rw [if_pos c4] at h0; exact absurd h0 c4
  rw [if_neg c4] at h0 ⊢
  by_cases c5 : (solR (eqAll R keys) (rhs R byF) keys.length).1 ≠ 0
  · rw [if_pos c5] at h0; exact absurd h0 c5
  rw [if_neg c5] at h0 ⊢
  by_cases c6 : bigA keys.length (solR (eqAll R keys) (rhs R pkF) keys.length).2 (solR (eqAll R keys) (rhs R byF) keys.length).2 = true
  · rw [if_pos c6] at h0; cases h0
  rw [if_neg c6]
  have e1 := one_sol hT1 (Classical.not_not.1 c4) (by simp) hE.1 (at_b _ hw1)
  have e2 := one_sol hT2 (Classical.not_not.1 c5) (by simp) hE.2 (at_b _ hw2)
  unfold ctsOf
  apply List.ext_getElem (by simp)
  intro j h1 h2
  have hj : j < keys.length := by simpa using h1
  simp only [List.getElem_map, List.getElem_range]
  rw [e1 j hj, e2 j hj, at0_keys hj, at0_keys hj, List.getD_eq_getElem?_getD, List.getElem?_eq_getElem hj]
  rfl
/-- One switch alone is peeled. -/
theorem jall1 : ∀ (n : Nat) (R : Rad) (out : List ByteArray), ∃ R' out', jall n [(R, out)] = [(R', out')] ∧ peelN n R out = (ssort out', R')
  | 0, R, out => ⟨R, out, rfl, rfl⟩
  | n + 1, R, out => by
    cases hp : pureOf R out with
    | none =>
      have hf : jfind [(R, out)] = none := jfind_eq_none fun j hj => by
        obtain rfl : j = 0 := by simpa using hj
        exact hp
      exact ⟨R, out, jall_none hf _, peelN_none hp _⟩
    | some key =>
      have hf : jfind [(R, out)] = some (0, key) := jfind_eq (by simp) hp fun j hj h => by omega
      obtain ⟨R', out', h1, h2⟩ := jall1 n (remR R key) (out ++ [key])
      refine ⟨R', out', ?_, by rw [peelN, hp]; exact h2⟩
      rw [jall_some hf]
      have : ([(R, out)] : List Sw).mapIdx (jtake 0 key) = [(remR R key, out ++ [key])] := by
        simp [jtake, jHit]
      rw [this, h1]
theorem jdec1 (R : Rad) : ∃ R' out', jdec [R] = [(R', out')] ∧ peel R = (ssort out', R') := by
  unfold jdec peel
  exact jall1 _ R []
end Go.Proofs.YtmgnmnogiajlgaaF
end

section
/- Joint: the fixed answer. -/
set_option maxRecDepth 8192
set_option maxHeartbeats 2000000
namespace Go.Proofs.YtmgnmnogiajlgaaF
open Go Go.Proofs.Vm Go.Proofs.Vm.Fld

theorem solR_one {m : List (List Int)} {b : List Int} {x0 : Int} (hT : Fld.Told PP ((wideR m b).map redR) 1 (solR m b 1)) (ha : Ann PP (wideR m b) ([x0] ++ [-1])) (hr : ∃ c, [1, c] ∈ wideR m b) : (solR m b 1).1 = 0 := by
  rcases hT.cases with h | ⟨h, _⟩ | ⟨h, _⟩
  · exact h
  · exact absurd (ann_red.2 ha) (hT.none h [x0] rfl)
  · obtain ⟨-, v, hv, hva, j, hj, hj1⟩ := hT.more h
    obtain rfl : j = 0 := by omega
    obtain ⟨v0, rfl⟩ : ∃ v0, v = [v0] := by
      match v, hv with
      | [v0], _ => exact ⟨v0, rfl⟩
    have : v0 = 1 := hj1
    subst this
    obtain ⟨c, hc⟩ := hr
    obtain ⟨t, ht⟩ := ann_red.1 hva _ hc
    have e : dot [1, c] ([1] ++ [0]) = 1 := by
      show 1 * 1 + (c * 0 + 0) = (1 : Int)
      omega
    rw [e] at ht
    have h6 : t = 0 ∨ 1 ≤ t ∨ t ≤ -1 := by omega
    simp only [PP] at ht
    omega
theorem eqRow_mem {R : Rad} {keys : List ByteArray} {i p : Nat} {r : List RCl} (hi : i < R.rows.length) (hr : R.rows[i] = r) (hp : p < r.length) : eqRow R keys i r.length p ∈ eqAll R keys := by
  have hd : R.rows.getD i [] = r := by rw [List.getD_eq_getElem?_getD, List.getElem?_eq_getElem hi, hr]; rfl
  refine List.mem_flatten.2 ⟨eqOf R keys i r.length, List.mem_map.2 ⟨i, List.mem_range.2 hi, by rw [hd]⟩, ?_⟩
  exact List.mem_map.2 ⟨p, List.mem_range.2 hp, by rw [hd]⟩
theorem wide_of {m : List (List Int)} {b : List Int} {r : List Int} (h : r ∈ m) (hl : b.length = m.length) : ∃ c, r ++ [c] ∈ wideR m b := by
  obtain ⟨i, hi, rfl⟩ := List.getElem_of_mem h
  have hb : i < b.length := by omega
  refine ⟨b[i], ?_⟩
  have hz : i < (wideR m b).length := by simp only [wideR, List.length_zipWith]; omega
  have : (wideR m b)[i] = m[i] ++ [b[i]] := by simp [wideR]
  rw [← this]
  exact List.getElem_mem _
theorem rows_len {R : Rad} {n : Nat} (h : ∀ x ∈ R.rows, x.length = n) (keys : List ByteArray) (f : RCl → Int) : (rhs R f).length = (eqAll R keys).length := by
  have hfl : ∀ l : List (List RCl), (∀ x ∈ l, x.length = n) → l.flatten.length = l.length * n := fun l => by
    induction l with
    | nil => intro _; simp
    | cons a t ih =>
      intro h
      rw [List.flatten_cons, List.length_append, ih fun x hx => h x (List.mem_cons_of_mem _ hx), h a List.mem_cons_self, List.length_cons, Nat.add_mul, Nat.one_mul]
      omega
  rw [rhs, List.length_map, hfl _ h]
  exact (eqTo_len h _ (Nat.le_refl _)).symm
/-- One key alone is counted. -/
theorem counts_one {s h : Int} {bits rows cols : Nat} (hd : Dim h bits rows cols) (hrc : rows * cols ≤ 32) {K : List ByteArray} {L : List Pkt} {k : ByteArray} (hk : k.size = 37) (hL : ∀ x ∈ L, x.1 = k) (hl : L.length ≤ 1000) (hb : ∀ x ∈ L, 0 ≤ x.2 ∧ x.2 ≤ 1073741824) (hok : rOk (encRad s h bits rows cols K L) = true) :
    countsF (encRad s h bits rows cols K L) [k] = (0, [(k, wOf (fun _ => 1) L k, wOf (·.2) L k)]) := by
  have hn : [k].Nodup := by simp
  have hL' : ∀ x ∈ L, x.1 ∈ [k] := fun x hx => by rw [hL x hx]; simp
  have hE := enc_ann (s := s) (h := h) (bits := bits) (rows := rows) (cols := cols) (K := K) hd.2.2.2.2.2.2.1 hn hL' PP
  have hrw : ∀ x ∈ (encRad s h bits rows cols K L).rows, x.length = cols := fun x hx => by
    have hx : x ∈ encRows s rows cols K L := hx
    obtain ⟨j, hj, rfl⟩ := List.getElem_of_mem hx
    rw [encRows_get, encRow_len]
  have hrl : (encRad s h bits rows cols K L).rows.length = rows := encRows_len ..
  have h0r : 0 < (encRad s h bits rows cols K L).rows.length := by rw [hrl]; exact hd.2.2.2.2.1
  have hp := pln_lt (s := s) (i := 0) (cols := cols) hd.2.2.2.2.2.2.1 k
  have hr0 : ∃ r, (encRad s h bits rows cols K L).rows[0] = r ∧ r.length = cols := ⟨_, rfl, hrw _ (List.getElem_mem h0r)⟩
  obtain ⟨r, hr, hrc0⟩ := hr0
  have hm := eqRow_mem (keys := [k]) h0r hr (p := pln s 0 cols k) (by omega)
  have he1 : eqRow (encRad s h bits rows cols K L) [k] 0 r.length (pln s 0 cols k) = [1] := by
    have hrg := hcell_range (hrow s ((0 : Int) + 1)) k (cols : Int) (by have := hd.2.2.2.2.2.2.1; omega)
    have e : rplc (encRad s h bits rows cols K L) k 0 cols = (pln s 0 cols k : Int) := by
      show hcell (hrow s ((0 : Nat) + 1 : Int)) k (cols : Int) = _
      unfold pln
      simp only [Int.natCast_zero]
      omega
    rw [hrc0]
    simp [eqRow, e]
  rw [he1] at hm
  have hT1 := solR_told (m := eqAll (encRad s h bits rows cols K L) [k]) (b := rhs (encRad s h bits rows cols K L) pkF) (n := 1) (fun r hr => (eqAll_row _ [k] r hr).1) (rows_len hrw _ _)
  have hT2 := solR_told (m := eqAll (encRad s h bits rows cols K L) [k]) (b := rhs (encRad s h bits rows cols K L) byF) (n := 1) (fun r hr => (eqAll_row _ [k] r hr).1) (rows_len hrw _ _)
  have s1 := solR_one hT1 hE.1 (wide_of hm (rows_len hrw _ _))
  have s2 := solR_one hT2 hE.2 (wide_of hm (rows_len hrw _ _))
  have h0 : (countsF (encRad s h bits rows cols K L) [k]).1 = 0 := by
    have hw1 := wOf_bound (w := fun _ => 1) (B := 1) (L := L) (fun x hx => by omega) k
    have hw2 := wOf_bound (w := (·.2)) (B := 1073741824) (L := L) hb k
    have hw3 : (L.length : Int) * 1073741824 ≤ 1000 * 1073741824 := Int.mul_le_mul_of_nonneg_right (by omega) (by omega)
    have b1 := one_sol hT1 s1 (x := [wOf (fun _ => 1) L k]) rfl hE.1 (fun j => by
      cases j with
      | zero => exact ⟨hw1.1, by show _ < (2305843009213693951 : Int); have := hw1.2; show wOf _ _ _ < _; omega⟩
      | succ j => simp [at0, PP]) 0 (by omega)
    have b2 := one_sol hT2 s2 (x := [wOf (·.2) L k]) rfl hE.2 (fun j => by
      cases j with
      | zero => exact ⟨hw2.1, by show _ < (2305843009213693951 : Int); have := hw2.2; show wOf _ _ _ < _; omega⟩
      | succ j => simp [at0, PP]) 0 (by omega)
    have hko : keysOk [k] = true := by rw [keysOk_iff]; intro i hi; have : i < 1 := hi; have e : i = 0 := (by omega); rw [e]; simp [keyOk, hk]
    have hhd : ((encRad s h bits rows cols K L).rows.headD []).length = cols := by
      have : (encRad s h bits rows cols K L).rows.headD [] = r := by rw [← hr, List.headD_eq_head?_getD, List.head?_eq_getElem?, List.getElem?_eq_getElem h0r]; rfl
      rw [this, hrc0]
    unfold countsF
    rw [if_neg (by rw [hok]; decide), if_neg (by rw [hko]; decide), if_neg (by rw [hrl, hhd]; simp; omega), if_neg (by show ¬ (solR _ _ 1).1 ≠ 0; rw [s1]; simp), if_neg (by show ¬ (solR _ _ 1).1 ≠ 0; rw [s2]; simp), if_neg ?_]
    intro hbig
    unfold bigA at hbig
    obtain ⟨i, hi, hbig⟩ := List.any_eq_true.1 hbig
    have hi0 : i = 0 := by have := List.mem_range.1 hi; simp at this; exact this
    subst hi0
    have e1 : at0 (solR (eqAll (encRad s h bits rows cols K L) [k]) (rhs (encRad s h bits rows cols K L) pkF) [k].length).2 0 = wOf (fun _ => 1) L k := b1
    have e2 : at0 (solR (eqAll (encRad s h bits rows cols K L) [k]) (rhs (encRad s h bits rows cols K L) byF) [k].length).2 0 = wOf (·.2) L k := b2
    rw [e1, e2] at hbig
    simp only [Bool.or_eq_true, decide_eq_true_eq] at hbig
    omega
  have h2 := counts_enc hd hn hL' hl hb h0
  exact Prod.ext h0 h2
theorem ct_bin {H : Hp} {a b : ByteArray} {x y x2 y2 : Int} {p q : Operand} :
    vbin Try.prog H .eql 49 p q (.agg [.c (.v (.string a)), .c (.v (.int .i64 x)), .c (.v (.int .i64 x2))]) (.agg [.c (.v (.string b)), .c (.v (.int .i64 y)), .c (.v (.int .i64 y2))]) = qa (vB (a == b && x == y && x2 == y2)) ∧
    vbin Try.prog H .neq 49 p q (.agg [.c (.v (.string a)), .c (.v (.int .i64 x)), .c (.v (.int .i64 x2))]) (.agg [.c (.v (.string b)), .c (.v (.int .i64 y)), .c (.v (.int .i64 y2))]) = qa (vB (!(a == b && x == y && x2 == y2))) :=
  bin_st3 (P := Try.prog) (t := 49) (pv_of Try.underlying49) (by kernel_rfl) (by kernel_rfl) (by kernel_rfl) (by kernel_rfl) (by kernel_rfl) (by kernel_rfl) (by kernel_rfl) (by kernel_rfl) (by kernel_rfl) (by kernel_rfl) (by kernel_rfl) us9 (by kernel_rfl) (by kernel_rfl)
theorem law_awake17 : TV.pu 6 [] = some (cB true) := by
  refine run6 (by simp) ?_
  have hd : Dim 2 64 2 8 := by unfold Dim; omega
  have hsz : aKey.size = 37 := rfl
  have hfit : fitB 100 = true := by decide
  have hfit2 : fitB 50 = true := by decide
  have hN : TV.pu 5 [cI .u64 1, cI .i64 64, cI .i64 2, cI .i64 2, cI .i64 8] = _ := rd_New (seed := 1) (hh := 2) (bits := 64) (rows := 2) (cols := 8) (by decide) (by decide) (by omega)
  rw [← encRad_nil] at hN
  have hS := fun K L => encRad_seeds (s := 1) (h := 2) (bits := 64) (rows := 2) (cols := 8) (K := K) (L := L) (by decide) (by decide)
  have hL := fun K L => encRad_lens (s := 1) (h := 2) (bits := 64) (rows := 2) (cols := 8) (K := K) (L := L) hd
  have hb : ∀ x ∈ [(aKey, (100 : Int)), (aKey, 50)], 0 ≤ x.2 ∧ x.2 ≤ 1073741824 := by intro x hx; simp only [List.mem_cons, List.not_mem_nil, or_false] at hx; rcases hx with rfl | rfl <;> decide
  have ok0 := encRad_ok (s := 1) (K := []) (L := []) hd (by simp) (by simp) (by simp)
  have ok1 := encRad_ok (s := 1) (K := [aKey]) (L := [(aKey, 100)]) hd (by simp) (by simp) (fun x hx => hb x (by simp only [List.mem_singleton] at hx; simp [hx]))
  have ok2 := encRad_ok (s := 1) (K := [aKey]) (L := [(aKey, 100), (aKey, 50)]) hd (by simp) (by simp) hb
  have ok3 := encRad_ok (s := 1) (K := []) (L := [(aKey, 100), (aKey, 50)]) hd (by simp) (by simp) hb
  have a1 := add_alone (s := 1) hd (L := []) (k := aKey) (b := 100) (by simp)
  have a2 := add_alone (s := 1) hd (L := [(aKey, 100)]) (k := aKey) (b := 50) (by simp)
  simp only [aK, List.nil_append, List.cons_append, if_true, List.cons_ne_self, reduceCtorEq, if_false] at a1 a2
  have A1 := rd_Add' (R := encRad 1 2 64 2 8 [] []) (key := aKey) (n := 100) (hS _ _) (hL _ _) ok0 hsz hfit
  rw [a1, ok1, if_pos rfl] at A1
  have A2 := rd_Add' (R := encRad 1 2 64 2 8 [aKey] [(aKey, 100)]) (key := aKey) (n := 50) (hS _ _) (hL _ _) ok1 hsz hfit2
  rw [a2, ok2, if_pos rfl] at A2
  have hp := peel_alone (s := 1) hd (L := [(aKey, 100), (aKey, 50)]) hsz ⟨100, by simp⟩
  have hc := counts_one (s := 1) hd (by decide) (K := [aKey]) (L := [(aKey, 100), (aKey, 50)]) hsz (by simp) (by simp) hb ok2
  have hw1 : wOf (fun _ => 1) [(aKey, (100 : Int)), (aKey, 50)] aKey = 2 := by simp [wOf]
  have hw2 : wOf (·.2) [(aKey, (100 : Int)), (aKey, 50)] aKey = 150 := by simp [wOf]
  rw [hw1, hw2] at hc
  have hE3 : emptyB (encRad 1 2 64 2 8 [] [(aKey, 100), (aKey, 50)]) = true := by rw [emptyB, ok3, enc_empty]; rfl
  have hSe := hS [aKey] [(aKey, 100), (aKey, 50)]
  have hLe := hL [aKey] [(aKey, 100), (aKey, 50)]
  obtain ⟨R0, h0⟩ : ∃ R, encRad 1 2 64 2 8 [] [] = R := ⟨_, rfl⟩
  obtain ⟨R1, h1⟩ : ∃ R, encRad 1 2 64 2 8 [aKey] [(aKey, 100)] = R := ⟨_, rfl⟩
  obtain ⟨R2, h2⟩ : ∃ R, encRad 1 2 64 2 8 [aKey] [(aKey, 100), (aKey, 50)] = R := ⟨_, rfl⟩
  rw [h0] at hN A1
  rw [h1] at A1 A2
  rw [h2] at A2 hp hc hSe hLe ok2
  have hRp := jn_Reports (l := [R2]) (by simp; exact ⟨hSe, hLe⟩) (by simp) (by simp [decOk, ok2])
  obtain ⟨R', out', j1, j2⟩ := jdec1 R2
  rw [hp] at j2
  have hr : repF [R2] = [([(aKey, 2, 150)], true)] := by
    rw [repF, j1]
    simp only [List.zipWith_cons_cons, List.zipWith_nil_right, rep1]
    rw [← (Prod.mk.inj j2).1, ← (Prod.mk.inj j2).2, hc, if_pos ⟨rfl, hE3⟩]
  rw [hr] at hRp
  simp only [cRads, cReps, cRep, cCts, cCt, cRad, cRws, cRw, List.map_cons, List.map_nil] at hN A1 A2 hRp
  simp only [aKey] at A1 A2 hRp
  simp -implicitDefEqProofs [Try.f6, hN, A1, A2, hRp, vmove, isNil, vstore, cellsOf?, Ent.wrO, wr, vbuildSlice_eq es36 el31, fzParts, setAll, rchParts, rch, rcha, frzAll, Ent.frz, ct_bin]
end Go.Proofs.YtmgnmnogiajlgaaF
end

section
/- Joint: radars as the document's. -/
set_option maxRecDepth 8192
set_option maxHeartbeats 2000000
namespace Go.Proofs.YtmgnmnogiajlgaaF
open Go Go.Proofs.Vm

def smallL (l : List Rad) : Bool := decide (l.length ≤ 5) && l.all smallB
def refA (l : List Rad) : CA := .tup [(false, [if smallL l = true then cRads l else .arr []]), (false, [.v (.bool (smallL l))])]
theorem mod_ne {α : Type} {f : α → α} {l : List α} {d u : Nat} (h : u ≠ d) : (l.modify d f)[u]? = l[u]? := by
  rw [List.getElem?_modify]
  cases l[u]? with
  | none => rfl
  | some a =>
    have : ¬ d = u := fun e => h e.symm
    simp [this]
theorem law_ref17 {l : List Rad} (h7 : ∀ R ∈ l, Lens7 R) (hl : ∀ R ∈ l, Lens R) (hn : l.length < 4611686018427387904) : TV.pu 11 [.one (cRads l)] = some (refA l) := by
  refine run11 (by simp) ?_
  by_cases h5 : l.length ≤ 5
  rotate_left
  · have h5' : 5 < (l.length : Int) := by omega
    have hs : smallL l = false := by simp [smallL, h5]
    simp -implicitDefEqProofs [Try.f11, cRads, vmove, isNil, h5', refA, hs]
  have h5' : ¬ 5 < (l.length : Int) := by omega
  have hfin : ∀ i (h : i < l.length), smallB l[i] = false → refA l = .tup [(false, [.arr []]), (false, [.v (.bool false)])] := fun i h hs => by
    have : smallL l = false := by
      unfold smallL
      have : l.all smallB = false := List.all_eq_false.2 ⟨_, List.getElem_mem h, by rw [hs]; decide⟩
      rw [this, Bool.and_false]
    simp [refA, this]
  obtain ⟨res, hres⟩ : ∃ res, refA l = res := ⟨_, rfl⟩
  rw [hres] at hfin ⊢
  simp -implicitDefEqProofs [Try.f11, cRads, vmove, isNil, h5']
  obtain ⟨I, hI⟩ : ∃ I : Nat → St → Prop, ∀ k s', I k s' ↔ (∃ e G i, s' = ⟨e, G⟩ ∧ e 4 = .one (.sl 1 0 i i) ∧ e 16 = .one (.c (cRads l)) ∧ e 17 = vI .i64 l.length ∧ e 18 = vI .i64 (i : Nat) ∧ (i + k = l.length) ∧ (G[1]? = some (.clo ((l.map cRad).take i) false)) ∧ (∀ j (h : j < l.length), j < i → smallB l[j] = true)) := ⟨_, fun _ _ => Iff.rfl⟩
  refine wpL_ind I ?_ l.length _ ((hI _ _).2 ⟨_, _, 0, (by first | rfl | (simp [cRads]; done) | (simp [cRads]; rfl) | (simp [cRads]; and_intros <;> rfl)), by simp, by simp [cRads], by simp, by simp, by omega, rfl, fun j h hj => by omega⟩)
  intro k stI hstI
  obtain ⟨e, G, i, rfl, e4, e16, e17, e18, hi, g1, hsm⟩ := (hI _ _).1 hstI
  by_cases c : i < l.length
  · have c' : (i : Int) < l.length := by omega
    obtain ⟨R, hR⟩ : ∃ R, l[i] = R := ⟨_, rfl⟩
    have hli : l[i]? = some R := by rw [List.getElem?_eq_getElem c, hR]
    have hRm : R ∈ l := hR ▸ List.getElem_mem c
    have hsmR := rr_Small (hl R hRm)
    obtain ⟨r1, r2⟩ := h7 R hRm
    have w_i : IntKind.i64.wrap ((i : Int) + 1) = ((i + 1 : Nat) : Int) := by rw [w64_id (by omega) (by omega)]; omega
    simp -implicitDefEqProofs [e16, e17, e18, c', hli, cRads, cRad, cRws, cRw, vmove, isNil, vstore, cellsOf?, Ent.wrO, wr, ownz]
    have g1l := (List.getElem?_eq_some_iff.1 g1).1
    obtain ⟨J, hJ⟩ : ∃ J : Nat → St → Prop, ∀ k2 s', J k2 s' ↔ (∃ e G q r j, s' = ⟨e, G⟩ ∧ e 4 = .one (.sl 1 0 i i) ∧ e 16 = .one (.c (cRads l)) ∧ e 17 = vI .i64 l.length ∧ e 18 = vI .i64 (i : Nat) ∧ e 7 = .one (.ptr ⟨q, 0, 0, 1⟩) ∧ e 28 = .one (.c (cRws R.rows)) ∧ e 29 = vI .i64 R.rows.length ∧ e 30 = vI .i64 (j : Nat) ∧ (j + k2 = R.rows.length) ∧ (G[1]? = some (.clo ((l.map cRad).take i) false)) ∧ (G[q]? = some (.opn [[.c (.v (.int .u64 R.s)), .c (.v (.int .u64 R.fs)), .c (.v (.int .i64 R.h)), .c (.arr (R.bits.map cB1)), .sl r 0 j j]] false)) ∧ (G[r]? = some (.clo ((R.rows.map fun x => [cRw x]).take j) false)) ∧ (1 ≠ q ∧ 1 ≠ r ∧ q ≠ r)) := ⟨_, fun _ _ => Iff.rfl⟩
    refine wpL_ind J ?_ R.rows.length _ ((hJ _ _).2 ⟨_, _, G.length + 5, G.length + 3 + 1, 0, (by first | rfl | (simp [e4, e16, e17, e18, cRads, cRws, cRw]; done) | (simp [e4, e16, e17, e18, cRads, cRws, cRw]; rfl) | (simp [e4, e16, e17, e18, cRads, cRws, cRw]; and_intros <;> rfl)), by simp [e4], by simp [e16, cRads], by simp [e17], by simp [e18], by simp, by simp [cRws, cRw], by simp, by simp, by omega, by rw [List.getElem?_append_left g1l]; exact g1, by simp, by rw [show G.length + 3 + 1 = G.length + 4 from rfl, ap_get]; simp, by omega⟩)
    clear e4 e16 e17 e18 g1 g1l
    intro k2 stJ hstJ
    obtain ⟨e, G, q, r, j, rfl, e4, e16, e17, e18, e7, e28, e29, e30, hj, k1, kq, kr, hne⟩ := (hJ _ _).1 hstJ
    by_cases cj : j < R.rows.length
    · have cj' : (j : Int) < R.rows.length := by omega
      obtain ⟨row, hrow⟩ : ∃ row, R.rows[j] = row := ⟨_, rfl⟩
      have hrj : R.rows[j]? = some row := by rw [List.getElem?_eq_getElem cj, hrow]
      have hr40 := r2 row (hrow ▸ List.getElem_mem cj)
      have w_j : IntKind.i64.wrap ((j : Int) + 1) = ((j + 1 : Nat) : Int) := by rw [w64_id (by omega) (by omega)]; omega
      simp -implicitDefEqProofs [e28, e29, e30, cj', hrj, cRws, cRw, vmove, isNil]
      have k1l := (List.getElem?_eq_some_iff.1 k1).1
      have kql := (List.getElem?_eq_some_iff.1 kq).1
      have krl := (List.getElem?_eq_some_iff.1 kr).1
      obtain ⟨Z, hZ⟩ : ∃ Z : Nat → St → Prop, ∀ k3 s', Z k3 s' ↔ (∃ e G d p, s' = ⟨e, G⟩ ∧ e 4 = .one (.sl 1 0 i i) ∧ e 16 = .one (.c (cRads l)) ∧ e 17 = vI .i64 l.length ∧ e 18 = vI .i64 (i : Nat) ∧ e 7 = .one (.ptr ⟨q, 0, 0, 1⟩) ∧ e 28 = .one (.c (cRws R.rows)) ∧ e 29 = vI .i64 R.rows.length ∧ e 30 = vI .i64 (j : Nat) ∧ e 10 = .one (.sl d 0 p p) ∧ e 34 = .one (.c (cRw row)) ∧ e 35 = vI .i64 row.length ∧ e 36 = vI .i64 (p : Nat) ∧ (p + k3 = row.length) ∧ (G[1]? = some (.clo ((l.map cRad).take i) false)) ∧ (G[q]? = some (.opn [[.c (.v (.int .u64 R.s)), .c (.v (.int .u64 R.fs)), .c (.v (.int .i64 R.h)), .c (.arr (R.bits.map cB1)), .sl r 0 j j]] false)) ∧ (G[r]? = some (.clo ((R.rows.map fun x => [cRw x]).take j) false)) ∧ (G[d]? = some (.clo ((row.map cCl).take p) false)) ∧ (d ≠ 1 ∧ d ≠ q ∧ d ≠ r)) := ⟨_, fun _ _ => Iff.rfl⟩
      refine wpL_ind Z ?_ row.length _ ((hZ _ _).2 ⟨_, _, G.length, 0, (by first | rfl | (simp [e4, e16, e17, e18, e7, e28, e29, e30, cRads, cRws, cRw]; done) | (simp [e4, e16, e17, e18, e7, e28, e29, e30, cRads, cRws, cRw]; rfl) | (simp [e4, e16, e17, e18, e7, e28, e29, e30, cRads, cRws, cRw]; and_intros <;> rfl)), by simp [e4], by simp [e16, cRads], by simp [e17], by simp [e18], by simp [e7], by simp [e28, cRws, cRw], by simp [e29], by simp [e30], by simp, by simp [cRw], by simp, by simp, by omega, by rw [List.getElem?_append_left k1l]; exact k1, by rw [List.getElem?_append_left kql]; exact kq, by rw [List.getElem?_append_left krl]; exact kr, by simp, by omega⟩)
      clear e4 e16 e17 e18 e7 e28 e29 e30 k1 kq kr k1l kql krl
      intro k3 stZ hstZ
      obtain ⟨e, G, d, p, rfl, e4, e16, e17, e18, e7, e28, e29, e30, e10, e34, e35, e36, hp, k1, kq, kr, kd, hnd⟩ := (hZ _ _).1 hstZ
      have k1l := (List.getElem?_eq_some_iff.1 k1).1
      have kql := (List.getElem?_eq_some_iff.1 kq).1
      have krl := (List.getElem?_eq_some_iff.1 kr).1
      have kdl := (List.getElem?_eq_some_iff.1 kd).1
      by_cases cp : p < row.length
      · have cp' : (p : Int) < row.length := by omega
        obtain ⟨cx, cf, cpk, cby, hc⟩ : ∃ cx cf cpk cby, row[p] = (cx, cf, cpk, cby) := ⟨_, _, _, _, rfl⟩
        have hrp : row[p]? = some (cx, cf, cpk, cby) := by rw [List.getElem?_eq_getElem cp, hc]
        have w_p : IntKind.i64.wrap ((p : Int) + 1) = ((p + 1 : Nat) : Int) := by rw [w64_id (by omega) (by omega)]; omega
        have ha := vappend_eq (P := Try.prog) (H := G ++ [.opn [(cCl (cx, cf, cpk, cby)).map .c] false, .clo [cCl (cx, cf, cpk, cby)] false]) (t := 85) (tx := 85) (id := d) (n := p) (l := (row.map cCl).take p) (xs := [cCl (cx, cf, cpk, cby)]) (x := .one (.sl (G.length + 1) 0 1 1)) es85 es85 el86
          (by rw [List.getElem?_append_left kdl]; exact kd) (by simp [elemsOf]) (by simp; omega) (by intro e he; obtain ⟨y, -, rfl⟩ := List.mem_map.1 (List.mem_of_mem_take he); rfl) (by simp [cCl]) (by simp only [List.length_singleton]; omega) (by simp only [List.length_singleton]; omega)
        have hN : (row.map cCl).take p ++ [cCl (cx, cf, cpk, cby)] = (row.map cCl).take (p + 1) := by
          rw [List.take_add_one, List.getElem?_map, hrp]; rfl
        rw [hN] at ha
        obtain ⟨G2, hG2⟩ : ∃ G2, (G ++ [Ent.opn [(cCl (cx, cf, cpk, cby)).map .c] false, .clo [cCl (cx, cf, cpk, cby)] false]).set d (.clo ((row.map cCl).take (p + 1)) false) = G2 := ⟨_, rfl⟩
        have g2 : ∀ (u : Nat) e, u ≠ d → G[u]? = some e → G2[u]? = some e := fun u e hu he => by
          rw [← hG2, set_get hu, List.getElem?_append_left (List.getElem?_eq_some_iff.1 he).1]; exact he
        have g2d : G2[d]? = some (.clo ((row.map cCl).take (p + 1)) false) := by
          rw [← hG2]; exact set_self (e0 := _) (by rw [List.getElem?_append_left kdl]; exact kd)
        rw [hG2] at ha
        simp only [cCl, List.length_singleton, List.map_cons, List.map_nil] at ha
        simp -implicitDefEqProofs [e10, e34, e35, e36, cp', hrp, cRw, cCl, vmove, isNil, vstore, cellsOf?, Ent.wrO, wr, vbuildSlice_eq es85 el86, fzParts, setAll, rchParts, rch, ha]
        exact ⟨(k3 - 1), by omega, (hZ _ _).2 ⟨_, G2, d, p + 1, (by first | rfl | (simp [e4, e16, e17, e18, e7, e28, e29, e30, e34, e35, w_p, cRads, cRws, cRw]; done) | (simp [e4, e16, e17, e18, e7, e28, e29, e30, e34, e35, w_p, cRads, cRws, cRw]; rfl) | (simp [e4, e16, e17, e18, e7, e28, e29, e30, e34, e35, w_p, cRads, cRws, cRw]; and_intros <;> rfl)), by simp [e4, w_p], by simp [e16, w_p, cRads], by simp [e17, w_p], by simp [e18, w_p], by simp [e7, w_p], by simp [e28, w_p, cRws, cRw], by simp [e29, w_p], by simp [e30, w_p], by simp [w_p], by simp [e34, w_p, cRw], by simp [e35, w_p], by simp [w_p], by omega, g2 1 _ (fun e => hnd.1 e.symm) k1, g2 q _ (fun e => hnd.2.1 e.symm) kq, g2 r _ (fun e => hnd.2.2 e.symm) kr, g2d, hnd⟩⟩
      · have cp' : ¬ (p : Int) < row.length := by omega
        have hp' : p = row.length := by omega
        subst hp'
        rw [List.take_of_length_le (by simp)] at kd
        have htr : List.take row.length (row.map cCl) = row.map cCl := List.take_of_length_le (by simp)
        obtain ⟨X, hX⟩ : ∃ X : Hp, List.modify (G ++ [Ent.clo [[.arr (row.map cCl)]] false]) d Ent.frz = X := ⟨_, rfl⟩
        have gx : ∀ (u : Nat) e, u ≠ d → G[u]? = some e → X[u]? = some e := fun u e hu he => by
          rw [← hX, mod_ne hu, List.getElem?_append_left (List.getElem?_eq_some_iff.1 he).1]; exact he
        have gxn : X[G.length]? = some (.clo [[.arr (row.map cCl)]] false) := by
          rw [← hX, mod_ne (by omega)]; simp
        have ha2 := vappend_eq (P := Try.prog) (H := X) (t := 64) (tx := 64) (id := r) (n := j) (l := (R.rows.map fun x => [cRw x]).take j) (xs := [[.arr (row.map cCl)]]) (x := .one (.sl G.length 0 1 1)) es64 es64 el85
          (gx r _ (fun e => hnd.2.2 e.symm) kr) (by simp [elemsOf, gxn]) (by simp; omega) (by intro e he; obtain ⟨y, -, rfl⟩ := List.mem_map.1 (List.mem_of_mem_take he); rfl) (by simp) (by simp only [List.length_singleton]; omega) (by simp only [List.length_singleton]; omega)
        have hN2 : (R.rows.map fun x => [cRw x]).take j ++ [[.arr (row.map cCl)]] = (R.rows.map fun x => [cRw x]).take (j + 1) := by
          rw [List.take_add_one, List.getElem?_map, hrj]; rfl
        rw [hN2] at ha2
        obtain ⟨G2, hG2⟩ : ∃ G2, X.set r (.clo ((R.rows.map fun x => [cRw x]).take (j + 1)) false) = G2 := ⟨_, rfl⟩
        rw [hG2] at ha2
        have g2 : ∀ (u : Nat) e, u ≠ r → X[u]? = some e → G2[u]? = some e := fun u e hu he => by rw [← hG2, set_get hu]; exact he
        have g2r : G2[r]? = some (.clo ((R.rows.map fun x => [cRw x]).take (j + 1)) false) := by rw [← hG2]; exact set_self (gx r _ (fun e => hnd.2.2 e.symm) kr)
        have g2q := g2 q _ hne.2.2 (gx q _ (fun e => hnd.2.1 e.symm) kq)
        obtain ⟨G3, hG3⟩ : ∃ G3, G2.set q (.opn [[.c (.v (.int .u64 R.s)), .c (.v (.int .u64 R.fs)), .c (.v (.int .i64 R.h)), .c (.arr (R.bits.map cB1)), .sl r 0 (j + 1) (j + 1)]] false) = G3 := ⟨_, rfl⟩
        have hs2 : vstore Try.prog false G2 64 (.one (.ptr ⟨q, 0, 4, 1⟩)) (.one (.sl r 0 (j + 1) (j + 1))) = some G3 := by
          rw [← hG3]; simp [vstore, cellsOf?, g2q, Ent.wrO, wr]
        have g3 : ∀ (u : Nat) e, u ≠ q → G2[u]? = some e → G3[u]? = some e := fun u e hu he => by rw [← hG3, set_get hu]; exact he
        have g3q : G3[q]? = some (.opn [[.c (.v (.int .u64 R.s)), .c (.v (.int .u64 R.fs)), .c (.v (.int .i64 R.h)), .c (.arr (R.bits.map cB1)), .sl r 0 (j + 1) (j + 1)]] false) := by rw [← hG3]; exact set_self g2q
        simp only [List.length_singleton] at ha2
        simp -implicitDefEqProofs [e7, e30, e10, e35, e36, cp', kq, kd, htr, vmove, isNil, cellsOf?, vbuildSlice_eq es64 el85, fzParts, setAll, rchParts, rch, frzAll, hX, ha2, g2q, hs2]
        exact ⟨(k2 - 1), by omega, (hJ _ _).2 ⟨_, G3, q, r, j + 1, (by first | rfl | (simp [e4, e16, e17, e18, e7, e28, e29, w_j, cRads, cRws, cRw]; done) | (simp [e4, e16, e17, e18, e7, e28, e29, w_j, cRads, cRws, cRw]; rfl) | (simp [e4, e16, e17, e18, e7, e28, e29, w_j, cRads, cRws, cRw]; and_intros <;> rfl)), by simp [e4, w_j], by simp [e16, w_j, cRads], by simp [e17, w_j], by simp [e18, w_j], by simp [e7, w_j], by simp [e28, w_j, cRws, cRw], by simp [e29, w_j], by simp [w_j], by omega, g3 1 _ hne.1 (g2 1 _ hne.2.1 (gx 1 _ (fun e => hnd.1 e.symm) k1)), g3q, g3 r _ (fun e => hne.2.2 e.symm) g2r, hne⟩⟩
    · have cj' : ¬ (j : Int) < R.rows.length := by omega
      have hj' : j = R.rows.length := by omega
      subst hj'
      rw [List.take_of_length_le (by simp)] at kr
      have htw : List.take R.rows.length (R.rows.map fun x => [CV.arr (x.map cCl)]) = R.rows.map fun x => [CV.arr (x.map cCl)] := List.take_of_length_le (by simp)
      simp only [cRad, cRws, cRw] at hsmR kr
      cases hsm1 : smallB R with
      | false =>
        rw [hsm1] at hsmR
        rw [hfin i c (by rw [hR]; exact hsm1)]
        simp -implicitDefEqProofs [e7, e29, e30, cj', kq, kr, htw, hsmR, vmove, isNil]
      | true =>
        rw [hsm1] at hsmR
        have hsm2 : ∀ j (h : j < l.length), j < i + 1 → smallB l[j] = true := fun j h hj => by
          by_cases e : j = i
          · subst e; rw [hR]; exact hsm1
          · exact hsm j h (by omega)
        have k1l := (List.getElem?_eq_some_iff.1 k1).1
        have krl := (List.getElem?_eq_some_iff.1 kr).1
        obtain ⟨X, hX⟩ : ∃ X : Hp, List.modify (G ++ [Ent.clo [cRad R] false]) r Ent.frz = X := ⟨_, rfl⟩
        have gx1 : X[1]? = some (.clo ((l.map cRad).take i) false) := by
          rw [← hX, mod_ne hne.2.1, List.getElem?_append_left k1l]; exact k1
        have gxn : X[G.length]? = some (.clo [cRad R] false) := by
          rw [← hX, mod_ne (by omega)]; simp
        have ha3 := vappend_eq (P := Try.prog) (H := X) (t := 51) (tx := 51) (id := 1) (n := i) (l := (l.map cRad).take i) (xs := [cRad R]) (x := .one (.sl G.length 0 1 1)) es51 es51 el66
          gx1 (by simp [elemsOf, gxn]) (by simp; omega) (by intro e he; obtain ⟨y, -, rfl⟩ := List.mem_map.1 (List.mem_of_mem_take he); rfl) (by simp [cRad]) (by simp only [List.length_singleton]; omega) (by simp only [List.length_singleton]; omega)
        have hN3 : (l.map cRad).take i ++ [cRad R] = (l.map cRad).take (i + 1) := by
          rw [List.take_add_one, List.getElem?_map, hli]; rfl
        rw [hN3] at ha3
        obtain ⟨G2, hG2⟩ : ∃ G2, X.set 1 (.clo ((l.map cRad).take (i + 1)) false) = G2 := ⟨_, rfl⟩
        have g21 : G2[1]? = some (.clo ((l.map cRad).take (i + 1)) false) := by rw [← hG2]; exact set_self gx1
        rw [hG2] at ha3
        simp only [List.length_singleton] at ha3
        simp only [cRad, cRws, cRw] at hX
        simp -implicitDefEqProofs [e4, e18, e7, e29, e30, cj', kq, kr, htw, hsmR, vmove, isNil, cellsOf?, vbuildSlice_eq es51 el66, fzParts, setAll, rchParts, rch, frzAll, hX, ha3]
        exact ⟨(k - 1), by omega, (hI _ _).2 ⟨_, G2, i + 1, (by first | rfl | (simp [e4, e16, e17, w_i, cRads]; done) | (simp [e4, e16, e17, w_i, cRads]; rfl) | (simp [e4, e16, e17, w_i, cRads]; and_intros <;> rfl)), by simp [w_i], by simp [e16, w_i, cRads], by simp [e17, w_i], by simp [w_i], by omega, g21, hsm2⟩⟩
  · have c' : ¬ (i : Int) < l.length := by omega
    have hi' : i = l.length := by omega
    subst hi'
    have hsa : smallL l = true := by
      unfold smallL
      rw [decide_eq_true h5, Bool.true_and, List.all_eq_true]
      intro x hx
      obtain ⟨j, hj, rfl⟩ := List.getElem_of_mem hx
      exact hsm j hj hj
    rw [List.take_of_length_le (by simp)] at g1
    have htl : List.take l.length (l.map cRad) = l.map cRad := List.take_of_length_le (by simp)
    simp -implicitDefEqProofs [e4, e17, e18, c', g1, htl, vmove, isNil, ← hres, refA, hsa, cRads]
end Go.Proofs.YtmgnmnogiajlgaaF
end

section
/- The law: a packet more, a flow less. -/
set_option maxRecDepth 8192
set_option maxHeartbeats 1000000
namespace Go.Proofs.YtmgnmnogiajlgaaF
open Go Go.Proofs.Vm

theorem rd_Place_no {R : Rad} {key : ByteArray} {i : Int} (hs : Seeds R) (hl : Lens R) (h : rOk R = false ∨ key.size ≠ 37 ∨ i < 0 ∨ (R.rows.length : Int) ≤ i) : TV.pu 53 [.agg (cRad R), cS key, cI .i64 i] = some (cI .i64 0) := by
  refine run53 (by simp) ?_
  have hR := rd_Right hs hl
  simp only [cRad, cRws, cRw] at hR
  cases hok : rOk R with
  | false =>
    rw [hok] at hR
    simp -implicitDefEqProofs [Try.f53, cRad, cRws, cRw, vmove, isNil, hR]
  | true =>
  rw [hok] at hR
  by_cases c1 : i < 0
  · simp -implicitDefEqProofs [Try.f53, cRad, cRws, cRw, vmove, isNil, hR, c1]
  by_cases c2 : (R.rows.length : Int) ≤ i
  · simp -implicitDefEqProofs [Try.f53, cRad, cRws, cRw, vmove, isNil, hR, c1, c2]
  have hk : ¬ (key.size : Int) = 37 := by
    rcases h with h | h | h | h
    · rw [hok] at h; cases h
    · omega
    · omega
    · omega
  simp -implicitDefEqProofs [Try.f53, cRad, cRws, cRw, vmove, isNil, hR, c1, c2, hk]
theorem updA_lens7 {R : Rad} {f : RCl → RCl} {key : ByteArray} {bits : List Bool} (h : Lens7 R) : Lens7 { R with bits := bits, rows := updA f R.s key R.rows } := by
  refine ⟨by show 24 * (updA f R.s key R.rows).length ≤ _; rw [updA_len]; exact h.1, fun x hx => ?_⟩
  obtain ⟨j, hj, rfl⟩ := List.getElem_of_mem (show x ∈ updA f R.s key R.rows from hx)
  rw [updA_at, updR_len]
  exact h.2 _ (List.getElem_mem _)
theorem zRad_lens : Lens zRad := ⟨by simp [zRad], by simp [zRad], by simp [zRad]⟩
theorem zRad_lens7 : Lens7 zRad := ⟨by simp [zRad], by simp [zRad]⟩
end Go.Proofs.YtmgnmnogiajlgaaF
end

section
/- The law: the first pure cell, and what is peeled. -/
set_option maxRecDepth 8192
set_option maxHeartbeats 1000000
namespace Go.Proofs.YtmgnmnogiajlgaaF
open Go Go.Proofs.Vm

theorem peelN_keeps {n : Nat} : ∀ {R : Rad} {out : List ByteArray}, Lens R → Lens7 R → Lens (peelN n R out).2 ∧ Lens7 (peelN n R out).2 := by
  induction n with
  | zero => intro R out h h7; exact ⟨h, h7⟩
  | succ n ih =>
    intro R out h h7
    rw [peelN]
    cases hp : pureOf R out with
    | none => exact ⟨h, h7⟩
    | some k => exact ih (remR_lens h) (updA_lens7 h7)
theorem rd_Peel_no {R : Rad} (hs : Seeds R) (hl : Lens R) (hok : rOk R = false) : TV.pu 14 [.agg (cRad R)] = some (peelA ([], R)) := by
  refine run14 (by simp) ?_
  have hP := rd_Pure_no (told := []) hs hl hok
  simp only [cRad, cRws, cRw, cSs, List.map_nil, pureA] at hP
  simp -implicitDefEqProofs [Try.f14, cRad, cRws, cRw, vmove, isNil]
  refine wpL_ind (fun k s' => k = 1 ∧ s' = _) ?_ 1 _ ⟨rfl, rfl⟩
  rintro k st ⟨rfl, rfl⟩
  have hso := sort_strs (H := [.opn [(cRad R).map .c] false, .clo [] false, .opn [[.c (.v (.int .u64 0)), .c (.v (.int .u64 0)), .c (.v (.int .i64 0)), .sl 3 0 0 0, .sl 4 0 0 0]] false, .clo [] false, .clo [] false, .clo [] false]) (id := 5) (l := []) rfl (by decide)
  simp only [cRad, cRws, cRw, List.map_cons, List.map_nil, List.length_nil, ssort_nil] at hso
  simp -implicitDefEqProofs [vmove, isNil, hP, hso, vstore, cellsOf?, Ent.wrO, wr]
  try simp [qa, comps, peelA, cSs, cRad, cRws, cRw]
theorem peelN_len {n : Nat} : ∀ {R : Rad} {out : List ByteArray}, (peelN n R out).1.length ≤ out.length + n := by
  induction n with
  | zero => intro R out; show (ssort out).length ≤ _; rw [ssort_len]; omega
  | succ n ih =>
    intro R out
    rw [peelN]
    cases hp : pureOf R out with
    | none => show (ssort out).length ≤ _; rw [ssort_len]; omega
    | some k =>
      have := ih (R := remR R k) (out := out ++ [k])
      rw [List.length_append] at this
      simp only [List.length_cons, List.length_nil] at this
      show (peelN n (remR R k) (out ++ [k])).1.length ≤ _
      omega
end Go.Proofs.YtmgnmnogiajlgaaF
end

section
/- The law: one switch alone. -/
set_option maxRecDepth 8192
set_option maxHeartbeats 2000000
namespace Go.Proofs.YtmgnmnogiajlgaaF
open Go Go.Proofs.Vm

theorem smallB_iff {R : Rad} : smallB R = true ↔ R.bits.length ≤ 300 ∧ R.rows.length ≤ 20 ∧ R.h ≤ 100 ∧ ∀ r ∈ R.rows, r.length ≤ 40 ∧ ∀ c ∈ r, c.1.size ≤ 100 := by
  unfold smallB
  simp only [Bool.and_eq_true, decide_eq_true_eq, List.all_eq_true]
  constructor
  · rintro ⟨⟨⟨a, b⟩, c⟩, d⟩; exact ⟨a, b, c, d⟩
  · rintro ⟨a, b, c, d⟩; exact ⟨⟨⟨a, b⟩, c⟩, d⟩
theorem small_rem {R : Rad} {key : ByteArray} (h : smallB R = true) (hok : rOk R = true) : smallB (remR R key) = true := by
  obtain ⟨a, b, c, d⟩ := smallB_iff.1 h
  obtain ⟨q1, q2, q3, q4, q5⟩ := rOk_facts (remR_ok (key := key) hok)
  refine smallB_iff.2 ⟨a, by show (updA (remC key) R.s key R.rows).length ≤ 20; rw [updA_len]; exact b, c, fun r hr => ?_⟩
  obtain ⟨j, hj, rfl⟩ := List.getElem_of_mem (show r ∈ updA (remC key) R.s key R.rows from hr)
  have hm := q5 _ hr
  refine ⟨?_, fun x hx => ?_⟩
  · rw [updA_at, updR_len]
    exact (d _ (List.getElem_mem _)).1
  · have := ((wrongB_iff x).1 (hm.2.2.2 x hx)).1
    omega
theorem peelN_small {n : Nat} : ∀ {R : Rad} {out : List ByteArray}, smallB R = true → rOk R = true → smallB (peelN n R out).2 = true := by
  induction n with
  | zero => intro R out h _; exact h
  | succ n ih =>
    intro R out h hok
    rw [peelN]
    cases hp : pureOf R out with
    | none => exact h
    | some k => exact ih (small_rem h hok) (remR_ok hok)
theorem law_jalone {R : Rad} (hs : Seeds R) (hl : Lens R) (h7 : Lens7 R) : TV.pu 4 [.agg (cRad R)] = some (cB true) := by
  refine run4 (by simp) ?_
  have hA := law_awake17
  have hrf := law_ref17 (l := [R]) (by simpa using h7) (by simpa using hl) (by simp)
  have hRt := rd_Right hs hl
  have hsl : smallL [R] = smallB R := by simp [smallL]
  unfold refA at hrf
  rw [hsl] at hrf
  cases hsm : smallB R with
  | false =>
    rw [hsm] at hrf
    simp only [cRads, cRad, cRws, cRw, List.map_cons, List.map_nil] at hrf hRt
    simp -implicitDefEqProofs [Try.f4, cRad, cRws, cRw, hrf, hA, vmove, isNil, cellsOf?, vbuildSlice_eq es36 el31, fzParts, setAll, rchParts, rch, rcha, frzAll, Ent.frz]
  | true =>
  rw [hsm, if_pos rfl] at hrf
  cases hok : rOk R with
  | false =>
    rw [hok] at hRt
    simp only [cRads, cRad, cRws, cRw, List.map_cons, List.map_nil] at hrf hRt
    simp -implicitDefEqProofs [Try.f4, cRad, cRws, cRw, hrf, hRt, hA, vmove, isNil, cellsOf?, vbuildSlice_eq es36 el31, fzParts, setAll, rchParts, rch, rcha, frzAll, Ent.frz]
  | true =>
  rw [hok] at hRt
  have hD := jn_Decode (l := [R]) (by simpa using ⟨hs, hl⟩) (by simp) (by simp [decOk, hok])
  have hPe := rd_Peel hs hl hok
  obtain ⟨R', out', j1, j2⟩ := jdec1 R
  rw [j1] at hD
  have hke := peelN_keeps (n := posN R) (out := []) hl h7
  have hks := peelN_small (n := posN R) (out := []) hsm hok
  have hml := peelN_len (n := posN R) (R := R) (out := [])
  have hpl := posN_le hok
  rw [show peelN (posN R) R [] = (ssort out', R') from j2] at hke hks hml
  rw [j2] at hPe
  dsimp only at hke hks hml
  simp only [List.length_nil] at hml
  have hrf2 := law_ref17 (l := [R']) (by simpa using hke.2) (by simpa using hke.1) (by simp)
  have hsl2 : smallL [R'] = true := by simp [smallL, hks]
  unfold refA at hrf2
  rw [hsl2, if_pos rfl] at hrf2
  have hSa := rr_Same (l := ssort out') (m := ssort out') (by omega)
  rw [decide_eq_true rfl] at hSa
  have hEq := rr_Equal (A := R') (B := R') hke.1
  rw [eqRad_iff.2 rfl] at hEq
  obtain ⟨so, hso⟩ : ∃ so, ssort out' = so := ⟨_, rfl⟩
  simp only [decA, cTold, cRads, List.map_cons, List.map_nil, hso] at hD
  rw [hso] at hPe hSa
  simp only [cRads, cRad, cRws, cRw, cSs, peelA, List.map_cons, List.map_nil] at hrf hRt hD hPe hrf2 hSa hEq
  simp -implicitDefEqProofs [Try.f4, cRad, cRws, cRw, hrf, hRt, hD, hPe, hrf2, hSa, hEq, hA, vmove, isNil, vstore, cellsOf?, Ent.wrO, wr, vbuildSlice_eq es36 el31, fzParts, setAll, rchParts, rch, rcha, frzAll, Ent.frz]
end Go.Proofs.YtmgnmnogiajlgaaF
end

section
/- JointTrue: what came at a switch, by the law's own words. -/
set_option maxRecDepth 8192
set_option maxHeartbeats 2000000
namespace Go.Proofs.YtmgnmnogiajlgaaF
open Go Go.Proofs.Vm

abbrev P3 := Int × ByteArray × Int
def cP3 (p : P3) : List CV := [.v (.int .i64 p.1), .v (.string p.2.1), .v (.int .i64 p.2.2)]
def cP3s (l : List P3) : CV := .arr (l.map cP3)
def pkAt (l : List P3) (at_ : Int) : List Pkt := (l.filter fun p => decide (p.1 = at_)).map (·.2)
def putK1 (ks : List ByteArray) (k : ByteArray) : List ByteArray := if ks.any (sEq k) = true then ks else insS k ks
def keysOf (L : List Pkt) : List ByteArray := L.foldl (fun ks x => putK1 ks x.1) []
def plainF (L : List Pkt) : List Ct := (keysOf L).map fun k => (k, wOf (fun _ => 1) L k, wOf (·.2) L k)
theorem pkAt_snoc (l : List P3) (at_ : Int) (p : P3) : pkAt (l ++ [p]) at_ = if p.1 = at_ then pkAt l at_ ++ [p.2] else pkAt l at_ := by
  unfold pkAt
  rw [List.filter_append, List.map_append]
  by_cases h : p.1 = at_
  · rw [if_pos h]; simp [h]
  · rw [if_neg h]; simp [h]
theorem keysOf_snoc (L : List Pkt) (x : Pkt) : keysOf (L ++ [x]) = putK1 (keysOf L) x.1 := by simp [keysOf]
theorem wOf_snoc (w : Pkt → Int) (L : List Pkt) (x : Pkt) (k : ByteArray) : wOf w (L ++ [x]) k = wOf w L k + if x.1 = k then w x else 0 := by
  unfold wOf
  rw [List.filter_append, List.map_append, List.sum_append]
  by_cases h : x.1 = k
  · rw [if_pos h]; simp [h]
  · rw [if_neg h]; simp [h]
theorem keysOf_facts : ∀ L : List Pkt, Srt (keysOf L) ∧ (keysOf L).Nodup ∧ (∀ k, k ∈ keysOf L ↔ Came L k) ∧ (keysOf L).length ≤ L.length := by
  refine list_rev ⟨List.Pairwise.nil, List.nodup_nil, fun k => ⟨fun h => by simp [keysOf] at h, fun ⟨b, h⟩ => by simp at h⟩, Nat.le_refl _⟩ fun L x ⟨h1, h2, h3, h4⟩ => ?_
  rw [keysOf_snoc]
  unfold putK1
  by_cases c : (keysOf L).any (sEq x.1) = true
  · rw [if_pos c]
    obtain ⟨y, hy, e⟩ := List.any_eq_true.1 c
    have e := sEq_iff.1 e
    refine ⟨h1, h2, fun k => (h3 k).trans ⟨fun ⟨b, h⟩ => ⟨b, List.mem_append_left _ h⟩, fun ⟨b, h⟩ => ?_⟩, by rw [List.length_append]; omega⟩
    rcases List.mem_append.1 h with h | h
    · exact ⟨b, h⟩
    · rw [List.mem_singleton] at h
      have : k = y := by rw [← e, ← h]
      exact (h3 k).1 (this ▸ hy)
  · rw [if_neg c]
    have hno : x.1 ∉ keysOf L := fun h => c (List.any_eq_true.2 ⟨_, h, sEq_iff.2 rfl⟩)
    refine ⟨insS_srt h1, (insS_perm _ _).nodup_iff.2 (List.nodup_cons.2 ⟨hno, h2⟩), fun k => ?_, by rw [insS_len, List.length_append]; simp; omega⟩
    rw [insS_mem, h3]
    constructor
    · rintro (rfl | ⟨b, h⟩)
      · exact ⟨x.2, by simp⟩
      · exact ⟨b, List.mem_append_left _ h⟩
    · rintro ⟨b, h⟩
      rcases List.mem_append.1 h with h | h
      · exact .inr ⟨b, h⟩
      · rw [List.mem_singleton] at h; exact .inl (by rw [← h])
theorem law_plain {l : List P3} {at_ : Int} (hl : l.length ≤ 1000) (hb : ∀ p ∈ l, 0 ≤ p.2.2 ∧ p.2.2 ≤ 1073741824) : TV.pu 10 [.one (cP3s l), cI .i64 at_] = some (.one (cCts (plainF (pkAt l at_)))) := by
  refine run10 (by simp) ?_
  simp -implicitDefEqProofs [Try.f10, cP3s, vmove, isNil]
  obtain ⟨I, hI⟩ : ∃ I : Nat → St → Prop, ∀ k s', I k s' ↔ (∃ e G i ks, s' = ⟨e, G⟩ ∧ e 0 = .one (.c (cP3s l)) ∧ e 1 = vI .i64 at_ ∧ e 14 = .one (.c (cP3s l)) ∧ e 15 = vI .i64 l.length ∧ e 16 = vI .i64 (i : Nat) ∧ (i + k = l.length) ∧ (ks = keysOf (pkAt (l.take i) at_)) ∧ (e 5 = .one (.c (cSs ks)) ∨ (e 5 = .one (.sl 1 0 0 0) ∧ ks = [] ∧ G[1]? = some (.clo [] false)))) := ⟨_, fun _ _ => Iff.rfl⟩
  refine wpL_ind I ?_ l.length _ ((hI _ _).2 ⟨_, _, 0, [], (by first | rfl | (simp [cP3s]; done) | (simp [cP3s]; rfl) | (simp [cP3s]; and_intros <;> rfl)), by simp [cP3s], by simp, by simp [cP3s], by simp, by simp, by omega, by simp [pkAt, keysOf], .inr ⟨by simp, rfl, rfl⟩⟩)
  intro k stI hstI
  obtain ⟨e, G, i, ks, rfl, e0, e1, e14, e15, e16, hi, hks, e5⟩ := (hI _ _).1 hstI
  by_cases c : i < l.length
  · have c' : (i : Int) < l.length := by omega
    obtain ⟨pa, pk, pb, hp⟩ : ∃ pa pk pb, l[i] = (pa, pk, pb) := ⟨_, _, _, rfl⟩
    have hli : l[i]? = some (pa, pk, pb) := by rw [List.getElem?_eq_getElem c, hp]
    have hn : pkAt (l.take (i + 1)) at_ = if pa = at_ then pkAt (l.take i) at_ ++ [(pk, pb)] else pkAt (l.take i) at_ := by
      rw [List.take_add_one, hli]
      exact pkAt_snoc _ _ _
    have hkl : ks.length ≤ 1000 := by
      have h1 := (keysOf_facts (pkAt (l.take i) at_)).2.2.2
      have h2 : (pkAt (l.take i) at_).length ≤ l.length := by
        unfold pkAt
        rw [List.length_map]
        have := List.length_filter_le (fun p : P3 => decide (p.1 = at_)) (l.take i)
        rw [List.length_take] at this
        omega
      rw [hks]; omega
    have hIn := rr_In (l := ks) (v := pk) (by omega)
    have hPut := rr_Put (l := ks) (key := pk) (by omega)
    have w_i : IntKind.i64.wrap ((i : Int) + 1) = ((i + 1 : Nat) : Int) := by rw [w64_id (by omega) (by omega)]; omega
    simp only [cSs] at hIn hPut
    by_cases ha : pa = at_
    rotate_left
    · rw [if_neg ha] at hn
      rcases e5 with e5 | ⟨e5, rfl, g1⟩
      · simp -implicitDefEqProofs [e1, e14, e15, e16, c', hli, cP3s, cP3, ha, vmove, isNil, vstore, cellsOf?, Ent.wrO, wr]
        exact ⟨(k - 1), by omega, (hI _ _).2 ⟨_, _, i + 1, ks, (by first | rfl | (simp [e0, e1, e14, e15, w_i, cP3s]; done) | (simp [e0, e1, e14, e15, w_i, cP3s]; rfl) | (simp [e0, e1, e14, e15, w_i, cP3s]; and_intros <;> rfl)), by simp [e0, w_i, cP3s], by simp [e1, w_i], by simp [e14, w_i, cP3s], by simp [e15, w_i], by simp [w_i], by omega, by rw [hn]; exact hks, .inl (by simp [e5])⟩⟩
      · simp -implicitDefEqProofs [e1, e14, e15, e16, c', hli, cP3s, cP3, ha, vmove, isNil, vstore, cellsOf?, Ent.wrO, wr]
        refine ⟨(k - 1), by omega, (hI _ _).2 ⟨_, _, i + 1, [], (by first | rfl | (simp [e0, e1, e14, e15, w_i, cP3s]; done) | (simp [e0, e1, e14, e15, w_i, cP3s]; rfl) | (simp [e0, e1, e14, e15, w_i, cP3s]; and_intros <;> rfl)), by simp [e0, w_i, cP3s], by simp [e1, w_i], by simp [e14, w_i, cP3s], by simp [e15, w_i], by simp [w_i], by omega, by rw [hn]; exact hks, .inr ⟨by simp [e5], rfl, by rw [List.getElem?_append_left (List.getElem?_eq_some_iff.1 g1).1]; exact g1⟩⟩⟩
    rw [if_pos ha] at hn
    cases hany : ks.any (sEq pk) with
    | true =>
      rw [hany] at hIn
      have hk2 : keysOf (pkAt (l.take (i + 1)) at_) = ks := by rw [hn, keysOf_snoc, ← hks, putK1, hany, if_pos rfl]
      rcases e5 with e5 | ⟨e5, rfl, g1⟩
      · simp -implicitDefEqProofs [e1, e5, e14, e15, e16, c', hli, cP3s, cP3, cSs, ha, hIn, vmove, isNil, vstore, cellsOf?, Ent.wrO, wr]
        exact ⟨(k - 1), by omega, (hI _ _).2 ⟨_, _, i + 1, ks, (by first | rfl | (simp [e0, e1, e14, e15, w_i, cP3s]; done) | (simp [e0, e1, e14, e15, w_i, cP3s]; rfl) | (simp [e0, e1, e14, e15, w_i, cP3s]; and_intros <;> rfl)), by simp [e0, w_i, cP3s], by simp [e1, w_i], by simp [e14, w_i, cP3s], by simp [e15, w_i], by simp [w_i], by omega, hk2.symm, .inl (by simp [e5, cSs])⟩⟩
      · simp at hany
    | false =>
      rw [hany] at hIn
      have hk2 : keysOf (pkAt (l.take (i + 1)) at_) = insS pk ks := by rw [hn, keysOf_snoc, ← hks, putK1, hany, if_neg (by decide)]
      rcases e5 with e5 | ⟨e5, rfl, g1⟩
      · simp -implicitDefEqProofs [e1, e5, e14, e15, e16, c', hli, cP3s, cP3, cSs, ha, hIn, hPut, vmove, isNil, vstore, cellsOf?, Ent.wrO, wr]
        exact ⟨(k - 1), by omega, (hI _ _).2 ⟨_, _, i + 1, insS pk ks, (by first | rfl | (simp [e0, e1, e14, e15, w_i, cP3s]; done) | (simp [e0, e1, e14, e15, w_i, cP3s]; rfl) | (simp [e0, e1, e14, e15, w_i, cP3s]; and_intros <;> rfl)), by simp [e0, w_i, cP3s], by simp [e1, w_i], by simp [e14, w_i, cP3s], by simp [e15, w_i], by simp [w_i], by omega, hk2.symm, .inl (by simp [cSs])⟩⟩
      · have g1' : ∀ T : Hp, (G ++ T)[1]? = some (.clo [] false) := fun T => by rw [List.getElem?_append_left (List.getElem?_eq_some_iff.1 g1).1]; exact g1
        simp only [List.map_nil] at hIn hPut
        simp -implicitDefEqProofs [e1, e5, e14, e15, e16, c', hli, cP3s, cP3, ha, hIn, hPut, g1', rcha, rch, frzAll, vmove, isNil, vstore, cellsOf?, Ent.wrO, wr]
        exact ⟨(k - 1), by omega, (hI _ _).2 ⟨_, _, i + 1, insS pk [], (by first | rfl | (simp [e0, e1, e14, e15, w_i, cP3s]; done) | (simp [e0, e1, e14, e15, w_i, cP3s]; rfl) | (simp [e0, e1, e14, e15, w_i, cP3s]; and_intros <;> rfl)), by simp [e0, w_i, cP3s], by simp [e1, w_i], by simp [e14, w_i, cP3s], by simp [e15, w_i], by simp [w_i], by omega, hk2.symm, .inl (by simp [cSs])⟩⟩
  · have c' : ¬ (i : Int) < l.length := by omega
    have hi' : i = l.length := by omega
    subst hi'
    rw [List.take_length] at hks
    obtain ⟨L, hL⟩ : ∃ L, pkAt l at_ = L := ⟨_, rfl⟩
    rw [hL] at hks ⊢
    have hLl : L.length ≤ 1000 := by
      rw [← hL]
      unfold pkAt
      rw [List.length_map]
      have := List.length_filter_le (fun p : P3 => decide (p.1 = at_)) l
      omega
    have hkl : ks.length ≤ 1000 := by
      have h1 := (keysOf_facts L).2.2.2
      rw [hks]; omega
    obtain ⟨W, hW⟩ : ∃ W, (plainF L).map cCt = W := ⟨_, rfl⟩
    have hWl : W.length = ks.length := by rw [← hW, hks]; simp [plainF]
    have hWe : ∀ e ∈ W, e.length = 3 := by rw [← hW]; intro e he; obtain ⟨y, _, rfl⟩ := List.mem_map.1 he; rfl
    rcases e5 with e5 | ⟨e5, rfl, g1⟩
    rotate_left
    · have hp0 : plainF L = [] := by rw [plainF, ← hks]; rfl
      have g1' : ∀ T : Hp, (G ++ T)[1]? = some (.clo [] false) := fun T => by rw [List.getElem?_append_left (List.getElem?_eq_some_iff.1 g1).1]; exact g1
      simp -implicitDefEqProofs [e5, e15, e16, c', g1', hp0, cCts, vmove, isNil]
      refine wpL_ind (fun k s' => k = 1 ∧ s' = _) ?_ 1 _ ⟨rfl, rfl⟩
      rintro k st ⟨rfl, rfl⟩
      simp -implicitDefEqProofs [vmove, isNil]
    simp -implicitDefEqProofs [e5, e15, e16, c', vmove, isNil, cSs]
    obtain ⟨J, hJ⟩ : ∃ J : Nat → St → Prop, ∀ k2 s', J k2 s' ↔ (∃ e G d j, s' = ⟨e, G⟩ ∧ e 0 = .one (.c (cP3s l)) ∧ e 1 = vI .i64 at_ ∧ e 8 = .one (.sl d 0 j j) ∧ e 36 = .one (.c (cSs ks)) ∧ e 37 = vI .i64 ks.length ∧ e 38 = vI .i64 (j : Nat) ∧ (j + k2 = ks.length) ∧ (G[d]? = some (.clo (W.take j) false))) := ⟨_, fun _ _ => Iff.rfl⟩
    refine wpL_ind J ?_ ks.length _ ((hJ _ _).2 ⟨_, _, G.length, 0, (by first | rfl | (simp [e0, e1, cP3s, cSs]; done) | (simp [e0, e1, cP3s, cSs]; rfl) | (simp [e0, e1, cP3s, cSs]; and_intros <;> rfl)), by simp [e0, cP3s], by simp [e1], by simp, by simp [cSs], by simp, by simp, by omega, by simp⟩)
    clear e0 e1 e5 e14 e15 e16
    intro k2 stJ hstJ
    obtain ⟨e, G, d, j, rfl, e0, e1, e8, e36, e37, e38, hj, gd⟩ := (hJ _ _).1 hstJ
    by_cases cj : j < ks.length
    · have cj' : (j : Int) < ks.length := by omega
      obtain ⟨key, hkey⟩ : ∃ key, ks[j] = key := ⟨_, rfl⟩
      have hkj : ks[j]? = some key := by rw [List.getElem?_eq_getElem cj, hkey]
      have hWj : W[j]? = some (cCt (key, wOf (fun _ => 1) L key, wOf (·.2) L key)) := by
        rw [← hW, plainF, ← hks]
        simp [hkj]
      have w_j : IntKind.i64.wrap ((j : Int) + 1) = ((j + 1 : Nat) : Int) := by rw [w64_id (by omega) (by omega)]; omega
      simp -implicitDefEqProofs [e0, e36, e37, e38, cj', hkj, cP3s, cSs, cStr, cellsOf?, ownz, wr, vmove, isNil, vstore, Ent.wrO]
      have gdl := (List.getElem?_eq_some_iff.1 gd).1
      obtain ⟨Z, hZ⟩ : ∃ Z : Nat → St → Prop, ∀ k3 s', Z k3 s' ↔ (∃ e G cb q, s' = ⟨e, G⟩ ∧ e 0 = .one (.c (cP3s l)) ∧ e 1 = vI .i64 at_ ∧ e 8 = .one (.sl d 0 j j) ∧ e 36 = .one (.c (cSs ks)) ∧ e 37 = vI .i64 ks.length ∧ e 38 = vI .i64 (j : Nat) ∧ e 10 = vS key ∧ e 11 = .one (.ptr ⟨cb, 0, 0, 1⟩) ∧ e 44 = .one (.c (cP3s l)) ∧ e 45 = vI .i64 l.length ∧ e 46 = vI .i64 (q : Nat) ∧ (q + k3 = l.length) ∧ (G[d]? = some (.clo (W.take j) false)) ∧ (G[cb]? = some (.opn [[.c (.v (.string key)), .c (.v (.int .i64 (wOf (fun _ => 1) (pkAt (l.take q) at_) key))), .c (.v (.int .i64 (wOf (·.2) (pkAt (l.take q) at_) key)))]] false))) := ⟨_, fun _ _ => Iff.rfl⟩
      refine wpL_ind Z ?_ l.length _ ((hZ _ _).2 ⟨_, _, G.length, 0, (by first | rfl | (simp [e0, e1, e8, e36, e37, e38, cP3s, cSs, cStr]; done) | (simp [e0, e1, e8, e36, e37, e38, cP3s, cSs, cStr]; rfl) | (simp [e0, e1, e8, e36, e37, e38, cP3s, cSs, cStr]; and_intros <;> rfl)), by simp [e0, cP3s], by simp [e1], by simp [e8], by simp [e36, cSs], by simp [e37], by simp [e38], by simp, by simp, by simp [cP3s], by simp, by simp, by omega, by rw [List.getElem?_append_left gdl]; exact gd, by simp [pkAt, wOf]⟩)
      clear e0 e1 e8 e36 e37 e38 gd gdl
      intro k3 stZ hstZ
      obtain ⟨e, G, cb, q, rfl, e0, e1, e8, e36, e37, e38, e10, e11, e44, e45, e46, hq, gd, gc⟩ := (hZ _ _).1 hstZ
      have gdl := (List.getElem?_eq_some_iff.1 gd).1
      have gcl := (List.getElem?_eq_some_iff.1 gc).1
      have hdc : cb ≠ d := fun e => by rw [e, gd] at gc; cases gc
      by_cases cq : q < l.length
      · have cq' : (q : Int) < l.length := by omega
        obtain ⟨pa, pk, pb, hp⟩ : ∃ pa pk pb, l[q] = (pa, pk, pb) := ⟨_, _, _, rfl⟩
        have hlq : l[q]? = some (pa, pk, pb) := by rw [List.getElem?_eq_getElem cq, hp]
        have hbq := hb (pa, pk, pb) (hp ▸ List.getElem_mem cq)
        dsimp only at hbq
        have hn : pkAt (l.take (q + 1)) at_ = if pa = at_ then pkAt (l.take q) at_ ++ [(pk, pb)] else pkAt (l.take q) at_ := by
          rw [List.take_add_one, hlq]
          exact pkAt_snoc _ _ _
        have gcT : ∀ T : Hp, (G ++ T)[cb]? = some (.opn [[.c (.v (.string key)), .c (.v (.int .i64 (wOf (fun _ => 1) (pkAt (l.take q) at_) key))), .c (.v (.int .i64 (wOf (·.2) (pkAt (l.take q) at_) key)))]] false) := fun T => by rw [List.getElem?_append_left gcl]; exact gc
        obtain ⟨a, ha⟩ : ∃ a, wOf (fun _ => 1) (pkAt (l.take q) at_) key = a := ⟨_, rfl⟩
        obtain ⟨b, hb2⟩ : ∃ b, wOf (·.2) (pkAt (l.take q) at_) key = b := ⟨_, rfl⟩
        have w_q : IntKind.i64.wrap ((q : Int) + 1) = ((q + 1 : Nat) : Int) := by rw [w64_id (by omega) (by omega)]; omega
        by_cases h1 : pa = at_
        rotate_left
        · rw [if_neg h1] at hn
          simp -implicitDefEqProofs [e1, e44, e45, e46, cq', hlq, h1, cP3s, cP3, cellsOf?, wr, vmove, isNil, vstore, Ent.wrO]
          refine ⟨(k3 - 1), by omega, (hZ _ _).2 ⟨_, _, cb, q + 1, (by first | rfl | (simp [e0, e1, e8, e36, e37, e38, e10, e11, e44, e45, w_q, cP3s, cSs, cStr]; done) | (simp [e0, e1, e8, e36, e37, e38, e10, e11, e44, e45, w_q, cP3s, cSs, cStr]; rfl) | (simp [e0, e1, e8, e36, e37, e38, e10, e11, e44, e45, w_q, cP3s, cSs, cStr]; and_intros <;> rfl)), by simp [e0, w_q, cP3s], by simp [e1, w_q], by simp [e8, w_q], by simp [e36, w_q, cSs], by simp [e37, w_q], by simp [e38, w_q], by simp [e10, w_q], by simp [e11, w_q], by simp [e44, w_q, cP3s], by simp [e45, w_q], by simp [w_q], by omega, by rw [List.getElem?_append_left gdl]; exact gd, by rw [hn]; exact gcT _⟩⟩
        by_cases h2 : pk = key
        rotate_left
        · simp -implicitDefEqProofs [e1, e10, e44, e45, e46, cq', hlq, h1, toList_inj, h2, cP3s, cP3, cellsOf?, wr, vmove, isNil, vstore, Ent.wrO]
          refine ⟨(k3 - 1), by omega, (hZ _ _).2 ⟨_, _, cb, q + 1, (by first | rfl | (simp [e0, e1, e8, e36, e37, e38, e10, e11, e44, e45, w_q, cP3s, cSs, cStr]; done) | (simp [e0, e1, e8, e36, e37, e38, e10, e11, e44, e45, w_q, cP3s, cSs, cStr]; rfl) | (simp [e0, e1, e8, e36, e37, e38, e10, e11, e44, e45, w_q, cP3s, cSs, cStr]; and_intros <;> rfl)), by simp [e0, w_q, cP3s], by simp [e1, w_q], by simp [e8, w_q], by simp [e36, w_q, cSs], by simp [e37, w_q], by simp [e38, w_q], by simp [e10, w_q], by simp [e11, w_q], by simp [e44, w_q, cP3s], by simp [e45, w_q], by simp [w_q], by omega, by rw [List.getElem?_append_left gdl]; exact gd, by rw [hn, if_pos h1, wOf_snoc, wOf_snoc, if_neg h2, if_neg h2, Int.add_zero, Int.add_zero]; exact gcT _⟩⟩
        · rw [ha, hb2] at gcT
          have gcS : ∀ (T : Hp) (x : Ent), ((G ++ T).set cb x)[cb]? = some x := fun T x => set_self (gcT T)
          have gbS : ∀ (B x : Ent), ((G ++ [B]).set cb x)[G.length]? = some B := fun B x => by rw [set_get (by omega)]; simp
          have gbE : ∀ (B x : Ent) (h : G.length < ((G ++ [B]).set cb x).length), ((G ++ [B]).set cb x)[G.length]'h = B := fun B x h => by
            have := gbS B x
            rw [List.getElem?_eq_getElem h] at this
            exact Option.some.inj this
          have hLq : ((pkAt (l.take q) at_).length : Int) ≤ 1000 := by
            unfold pkAt
            rw [List.length_map]
            have := List.length_filter_le (fun p : P3 => decide (p.1 = at_)) (l.take q)
            rw [List.length_take] at this
            omega
          have b1 := wOf_bound (w := fun _ => 1) (B := 1) (L := pkAt (l.take q) at_) (fun x hx => by omega) key
          have b2 := wOf_bound (w := (·.2)) (B := 1073741824) (L := pkAt (l.take q) at_) (fun x hx => by
            obtain ⟨y, hy, rfl⟩ := List.mem_map.1 hx
            exact hb y (List.mem_of_mem_take (List.mem_filter.1 hy).1)) key
          have b3 : ((pkAt (l.take q) at_).length : Int) * 1073741824 ≤ 1000 * 1073741824 := Int.mul_le_mul_of_nonneg_right hLq (by omega)
          rw [ha] at b1
          rw [hb2] at b2
          have hw1 : IntKind.i64.wrap (a + 1) = a + 1 := w64_id (by omega) (by omega)
          have hw2 : IntKind.i64.wrap (b + pb) = b + pb := w64_id (by omega) (by omega)
          simp -implicitDefEqProofs [e1, e10, e11, e44, e45, e46, cq', hlq, h1, h2, gcT, gcS, gbE, hw1, hw2, cP3s, cP3, cellsOf?, wr, vmove, isNil, vstore, Ent.wrO]
          refine ⟨(k3 - 1), by omega, (hZ _ _).2 ⟨_, _, cb, q + 1, (by first | rfl | (simp [e0, e1, e8, e36, e37, e38, e10, e11, e44, e45, w_q, cP3s, cSs, cStr]; done) | (simp [e0, e1, e8, e36, e37, e38, e10, e11, e44, e45, w_q, cP3s, cSs, cStr]; rfl) | (simp [e0, e1, e8, e36, e37, e38, e10, e11, e44, e45, w_q, cP3s, cSs, cStr]; and_intros <;> rfl)), by simp [e0, w_q, cP3s], by simp [e1, w_q], by simp [e8, w_q], by simp [e36, w_q, cSs], by simp [e37, w_q], by simp [e38, w_q], by simp [e10, w_q], by simp [e11, w_q], by simp [e44, w_q, cP3s], by simp [e45, w_q], by simp [w_q], by omega, by rw [set_get (fun e => hdc e.symm), List.getElem?_append_left gdl]; exact gd, by rw [hn, if_pos h1, wOf_snoc, wOf_snoc, if_pos h2, if_pos h2, ha, hb2]; exact gcS _ _⟩⟩
      · have cq' : ¬ (q : Int) < l.length := by omega
        have hq' : q = l.length := by omega
        rw [hq', List.take_length, hL] at gc
        have ha3 := vappend_eq (P := Try.prog) (H := G ++ [.clo [cCt (key, wOf (fun _ => 1) L key, wOf (·.2) L key)] false]) (t := 44) (tx := 44) (id := d) (n := j) (l := W.take j) (xs := [cCt (key, wOf (fun _ => 1) L key, wOf (·.2) L key)]) (x := .one (.sl G.length 0 1 1)) es44 es44 el49
          (by rw [List.getElem?_append_left gdl]; exact gd) (by simp [elemsOf]) (by simp; omega) (by intro e he; exact hWe e (List.mem_of_mem_take he)) (by simp [cCt]) (by simp only [List.length_singleton]; omega) (by simp only [List.length_singleton]; omega)
        have hN3 : W.take j ++ [cCt (key, wOf (fun _ => 1) L key, wOf (·.2) L key)] = W.take (j + 1) := by
          rw [List.take_add_one, hWj]; rfl
        rw [hN3] at ha3
        obtain ⟨G2, hG2⟩ : ∃ G2, (G ++ [Ent.clo [cCt (key, wOf (fun _ => 1) L key, wOf (·.2) L key)] false]).set d (.clo (W.take (j + 1)) false) = G2 := ⟨_, rfl⟩
        have hG2d : G2[d]? = some (.clo (W.take (j + 1)) false) := by
          rw [← hG2]; exact set_self (e0 := _) (by rw [List.getElem?_append_left gdl]; exact gd)
        rw [hG2] at ha3
        obtain ⟨a, ha⟩ : ∃ a, wOf (fun _ => 1) L key = a := ⟨_, rfl⟩
        obtain ⟨b, hb2⟩ : ∃ b, wOf (·.2) L key = b := ⟨_, rfl⟩
        rw [ha, hb2] at ha3 gc
        simp only [cCt, List.length_singleton] at ha3
        simp -implicitDefEqProofs [e8, e38, e11, e45, e46, cq', gc, cellsOf?, vmove, isNil, vbuildSlice_eq es44 el49, fzParts, setAll, rchParts, rch, ha3]
        exact ⟨(k2 - 1), by omega, (hJ _ _).2 ⟨_, G2, d, j + 1, (by first | rfl | (simp [e0, e1, e36, e37, w_j, cP3s, cSs]; done) | (simp [e0, e1, e36, e37, w_j, cP3s, cSs]; rfl) | (simp [e0, e1, e36, e37, w_j, cP3s, cSs]; and_intros <;> rfl)), by simp [e0, w_j, cP3s], by simp [e1, w_j], by simp [w_j], by simp [e36, w_j, cSs], by simp [e37, w_j], by simp [w_j], by omega, hG2d⟩⟩
    · have cj' : ¬ (j : Int) < ks.length := by omega
      have hj' : j = ks.length := by omega
      rw [hj', ← hWl, List.take_length] at gd
      have htW : List.take ks.length W = W := List.take_of_length_le (by omega)
      simp -implicitDefEqProofs [e8, e37, e38, hj', gd, hWl, htW, cCts, hW, vmove, isNil]
end Go.Proofs.YtmgnmnogiajlgaaF
end

section
/- JointTrue: do filters tell flows apart? -/
set_option maxRecDepth 8192
set_option maxHeartbeats 2000000
namespace Go.Proofs.YtmgnmnogiajlgaaF
open Go Go.Proofs.Vm

def othK (ks : List ByteArray) (k : ByteArray) : List Pkt := (ks.filter fun x => decide (x ≠ k)).map fun x => (x, 0)
def faithB (fs h : Int) (n : Nat) (L : List Pkt) (l : List P3) : Bool := l.all fun p => !hasB fs h (bitsOf fs h n (othK (keysOf L) p.2.1)) p.2.1
theorem othK_snoc (ks : List ByteArray) (x k : ByteArray) : othK (ks ++ [x]) k = if x = k then othK ks k else othK ks k ++ [(x, 0)] := by
  unfold othK
  rw [List.filter_append, List.map_append]
  by_cases h : x = k
  · rw [if_pos h]; simp [h]
  · rw [if_neg h]; simp [h]
theorem faith_apart {fs h : Int} {n : Nat} (hn : 1 ≤ n) {L : List Pkt} {l : List P3} (hf : faithB fs h n L l = true) {ks : List ByteArray} (hk : ∀ k ∈ ks, ∃ p ∈ l, p.2.1 = k) : Apart fs h n ks L := fun k hkm => by
  obtain ⟨p, hp, rfl⟩ := hk k hkm
  have h1 := List.all_eq_true.1 hf p hp
  rw [Bool.not_eq_true'] at h1
  cases hb : hasB fs h (bitsOf fs h n (L.filter fun x => decide (x.1 ≠ p.2.1))) p.2.1 with
  | false => rfl
  | true =>
    have := hasB_mono (L' := othK (keysOf L) p.2.1) hn (fun x ⟨b, hx⟩ => by
      obtain ⟨h2, h3⟩ := List.mem_filter.1 hx
      have h3 : x ≠ p.2.1 := by simpa using h3
      refine ⟨0, List.mem_map.2 ⟨x, List.mem_filter.2 ⟨((keysOf_facts L).2.2.1 x).2 ⟨b, h2⟩, by simpa using h3⟩, rfl⟩⟩) hb
    rw [h1] at this
    cases this
theorem law_faithful {fs h : Int} {n : Nat} {l : List P3} {at_ : Int} (f0 : 0 ≤ fs) (f1 : fs < 18446744073709551616) (hh : 1 ≤ h ∧ h ≤ 7) (hn : 1 ≤ n ∧ n ≤ 256) (hl : l.length ≤ 1000) (hb : ∀ p ∈ l, 0 ≤ p.2.2 ∧ p.2.2 ≤ 1073741824) (hk37 : ∀ p ∈ l, p.2.1.size = 37) :
    TV.pu 8 [.agg (cF fs h (List.replicate n false)), .one (cP3s l), cI .i64 at_] = some (cB (faithB fs h n (pkAt l at_) l)) := by
  refine run8 (by simp) ?_
  have hPl := law_plain (at_ := at_) hl hb
  obtain ⟨L, hL⟩ : ∃ L, pkAt l at_ = L := ⟨_, rfl⟩
  obtain ⟨ks, hks⟩ : ∃ ks, keysOf L = ks := ⟨_, rfl⟩
  rw [hL] at hPl ⊢
  have hkl : ks.length ≤ 1000 := by
    have h1 := (keysOf_facts L).2.2.2
    have h2 : (pkAt l at_).length ≤ l.length := by
      unfold pkAt
      rw [List.length_map]
      exact List.length_filter_le _ _
    rw [← hks]; rw [hL] at h2; omega
  have hkm : ∀ k ∈ ks, k.size = 37 := fun k hk => by
    rw [← hks] at hk
    obtain ⟨b, hb⟩ := ((keysOf_facts L).2.2.1 k).1 hk
    rw [← hL] at hb
    obtain ⟨p, hp, e⟩ := List.mem_map.1 hb
    have := hk37 p (List.mem_filter.1 hp).1
    rw [e] at this
    exact this
  obtain ⟨CT, hCT⟩ : ∃ CT, plainF L = CT := ⟨_, rfl⟩
  have hCl : CT.length = ks.length := by rw [← hCT, ← hks]; simp [plainF]
  have hCk : ∀ (j : Nat) k, ks[j]? = some k → ∃ a b, CT[j]? = some (k, a, b) := fun j k hj => by
    rw [← hCT, plainF, hks, List.getElem?_map, hj]
    exact ⟨_, _, rfl⟩
  rw [hCT] at hPl
  have hfin : ∀ i (hi : i < l.length), hasB fs h (bitsOf fs h n (othK ks l[i].2.1)) l[i].2.1 = true → faithB fs h n L l = false := fun i hi hh => by
    unfold faithB
    rw [List.all_eq_false]
    exact ⟨l[i], List.getElem_mem hi, by rw [hks, hh]; decide⟩
  have hbn : bitsOf fs h n [] = List.replicate n false := bitsOf_nil fs h n
  have hBl : ∀ M, (bitsOf fs h n M).length = n := fun M => bitsOf_len fs h n M
  have hfo : ∀ M, fOk h (bitsOf fs h n M) = true := fun M => fOk_iff.2 ⟨hh.1, hh.2, by rw [hBl]; exact hn.1, by rw [hBl]; exact hn.2⟩
  simp only [cP3s, cCts] at hPl
  rw [← hbn]
  simp -implicitDefEqProofs [Try.f8, cP3s, cF, vmove, isNil]
  obtain ⟨I, hI⟩ : ∃ I : Nat → St → Prop, ∀ k s', I k s' ↔ (∃ e G b3 i, s' = ⟨e, G⟩ ∧ e 1 = .one (.c (cP3s l)) ∧ e 2 = vI .i64 at_ ∧ e 3 = .one (.ptr ⟨b3, 0, 0, 1⟩) ∧ e 12 = .one (.c (cP3s l)) ∧ e 13 = vI .i64 l.length ∧ e 14 = vI .i64 (i : Nat) ∧ (i + k = l.length) ∧ (G[b3]? = some (.opn [(cF fs h (bitsOf fs h n [])).map .c] false)) ∧ (∀ j (hj : j < l.length), j < i → hasB fs h (bitsOf fs h n (othK ks l[j].2.1)) l[j].2.1 = false)) := ⟨_, fun _ _ => Iff.rfl⟩
  refine wpL_ind I ?_ l.length _ ((hI _ _).2 ⟨_, _, 0, 0, (by first | rfl | (simp [cP3s]; done) | (simp [cP3s]; rfl) | (simp [cP3s]; and_intros <;> rfl)), by simp [cP3s], by simp, by simp, by simp [cP3s], by simp, by simp, by omega, by simp [cF], fun j hj hji => by omega⟩)
  intro k stI hstI
  obtain ⟨e, G, b3, i, rfl, e1, e2, e3, e12, e13, e14, hi, g0, hno⟩ := (hI _ _).1 hstI
  by_cases c : i < l.length
  · have c' : (i : Int) < l.length := by omega
    obtain ⟨pa, pk, pb, hp⟩ : ∃ pa pk pb, l[i] = (pa, pk, pb) := ⟨_, _, _, rfl⟩
    have hli : l[i]? = some (pa, pk, pb) := by rw [List.getElem?_eq_getElem c, hp]
    have hp37 := hk37 (pa, pk, pb) (hp ▸ List.getElem_mem c)
    dsimp only at hp37
    have hbad := hfin i c
    have g0l := (List.getElem?_eq_some_iff.1 g0).1
    have g0T : ∀ T : Hp, (G ++ T)[b3]? = some (.opn [(cF fs h (bitsOf fs h n [])).map .c] false) := fun T => by rw [List.getElem?_append_left g0l]; exact g0
    rw [hp] at hbad
    dsimp only at hbad
    have w_i : IntKind.i64.wrap ((i : Int) + 1) = ((i + 1 : Nat) : Int) := by rw [w64_id (by omega) (by omega)]; omega
    simp only [cF] at g0T
    simp -implicitDefEqProofs [e1, e2, e3, e12, e13, e14, c', hli, g0T, hPl, cP3s, cP3, cellsOf?, wr, vmove, isNil, vstore, Ent.wrO]
    obtain ⟨J, hJ⟩ : ∃ J : Nat → St → Prop, ∀ k2 s', J k2 s' ↔ (∃ e G b3 b8 b9 j, s' = ⟨e, G⟩ ∧ e 1 = .one (.c (cP3s l)) ∧ e 2 = vI .i64 at_ ∧ e 3 = .one (.ptr ⟨b3, 0, 0, 1⟩) ∧ e 12 = .one (.c (cP3s l)) ∧ e 13 = vI .i64 l.length ∧ e 14 = vI .i64 (i : Nat) ∧ e 8 = .one (.ptr ⟨b8, 0, 0, 1⟩) ∧ e 9 = .one (.ptr ⟨b9, 0, 0, 1⟩) ∧ e 21 = .one (.c (cCts CT)) ∧ e 22 = vI .i64 ks.length ∧ e 23 = vI .i64 (j : Nat) ∧ (j + k2 = ks.length) ∧ (G[b3]? = some (.opn [(cF fs h (bitsOf fs h n [])).map .c] false)) ∧ (G[b8]? = some (.opn [(cP3 (pa, pk, pb)).map .c] false)) ∧ (G[b9]? = some (.opn [(cF fs h (bitsOf fs h n (othK (ks.take j) pk))).map .c] false)) ∧ (b9 ≠ b3 ∧ b9 ≠ b8)) := ⟨_, fun _ _ => Iff.rfl⟩
    refine wpL_ind J ?_ ks.length _ ((hJ _ _).2 ⟨_, _, b3, G.length, G.length + 1, 0, (by first | rfl | (simp [e1, e2, e3, e12, e13, e14, cP3s, cCts, hCl]; done) | (simp [e1, e2, e3, e12, e13, e14, cP3s, cCts, hCl]; rfl) | (simp [e1, e2, e3, e12, e13, e14, cP3s, cCts, hCl]; and_intros <;> rfl)), by simp [e1, cP3s, hCl], by simp [e2, hCl], by simp [e3, hCl], by simp [e12, cP3s, hCl], by simp [e13, hCl], by simp [e14, hCl], by simp [hCl], by simp [hCl], by simp [cCts, hCl], by simp [hCl], by simp [hCl], by omega, g0T _, by simp [cP3], by simp [cF, othK], by omega⟩)
    clear e1 e2 e3 e12 e13 e14 g0 g0T g0l
    intro k2 stJ hstJ
    obtain ⟨e, G, b3, b8, b9, j, rfl, e1, e2, e3, e12, e13, e14, e8, e9, e21, e22, e23, hj, g3, g8, g9, hne⟩ := (hJ _ _).1 hstJ
    have g3T : ∀ T : Hp, (G ++ T)[b3]? = some (.opn [(cF fs h (bitsOf fs h n [])).map .c] false) := fun T => by rw [List.getElem?_append_left (List.getElem?_eq_some_iff.1 g3).1]; exact g3
    have g8T : ∀ T : Hp, (G ++ T)[b8]? = some (.opn [(cP3 (pa, pk, pb)).map .c] false) := fun T => by rw [List.getElem?_append_left (List.getElem?_eq_some_iff.1 g8).1]; exact g8
    have g9T : ∀ T : Hp, (G ++ T)[b9]? = some (.opn [(cF fs h (bitsOf fs h n (othK (ks.take j) pk))).map .c] false) := fun T => by rw [List.getElem?_append_left (List.getElem?_eq_some_iff.1 g9).1]; exact g9
    by_cases cj : j < ks.length
    · have cj' : (j : Int) < ks.length := by omega
      obtain ⟨key, hkey⟩ : ∃ key, ks[j] = key := ⟨_, rfl⟩
      have hkj : ks[j]? = some key := by rw [List.getElem?_eq_getElem cj, hkey]
      obtain ⟨ca, cb, hcj⟩ := hCk j key hkj
      have hs37 := hkm key (hkey ▸ List.getElem_mem cj)
      have htk : ks.take (j + 1) = ks.take j ++ [key] := by rw [List.take_add_one, hkj]; rfl
      have hAd := bloom_Add (seed := fs) (h := h) (bits := bitsOf fs h n (othK (ks.take j) pk)) (key := key) f0 f1 (by omega) (hfo _)
      rw [hBl, bitsOf_add hn.1 (b := 0)] at hAd
      have hS : othK (ks.take (j + 1)) pk = if key = pk then othK (ks.take j) pk else othK (ks.take j) pk ++ [(key, 0)] := by rw [htk, othK_snoc]
      have w_j : IntKind.i64.wrap ((j : Int) + 1) = ((j + 1 : Nat) : Int) := by rw [w64_id (by omega) (by omega)]; omega
      simp only [cF, cP3, List.map_cons, List.map_nil] at g3T g8T g9T hAd
      by_cases he : key = pk
      · rw [if_pos he] at hS
        simp -implicitDefEqProofs [e8, e21, e22, e23, cj', hcj, g8T, he, cCts, cCt, cellsOf?, wr, vmove, isNil, vstore, Ent.wrO]
        exact ⟨(k2 - 1), by omega, (hJ _ _).2 ⟨_, _, b3, b8, b9, j + 1, (by first | rfl | (simp [e1, e2, e3, e12, e13, e14, e8, e9, e21, e22, w_j, cP3s, cCts]; done) | (simp [e1, e2, e3, e12, e13, e14, e8, e9, e21, e22, w_j, cP3s, cCts]; rfl) | (simp [e1, e2, e3, e12, e13, e14, e8, e9, e21, e22, w_j, cP3s, cCts]; and_intros <;> rfl)), by simp [e1, w_j, cP3s], by simp [e2, w_j], by simp [e3, w_j], by simp [e12, w_j, cP3s], by simp [e13, w_j], by simp [e14, w_j], by simp [e8, w_j], by simp [e9, w_j], by simp [e21, w_j, cCts], by simp [e22, w_j], by simp [w_j], by omega, g3T _, g8T _, by rw [hS]; exact g9T _, hne⟩⟩
      · rw [if_neg he] at hS
        simp -implicitDefEqProofs [e8, e9, e21, e22, e23, cj', hcj, g8T, g9T, toList_inj, he, hAd, cCts, cCt, cellsOf?, wr, vmove, isNil, vstore, Ent.wrO]
        exact ⟨(k2 - 1), by omega, (hJ _ _).2 ⟨_, _, b3, b8, b9, j + 1, (by first | rfl | (simp [e1, e2, e3, e12, e13, e14, e8, e9, e21, e22, w_j, cP3s, cCts]; done) | (simp [e1, e2, e3, e12, e13, e14, e8, e9, e21, e22, w_j, cP3s, cCts]; rfl) | (simp [e1, e2, e3, e12, e13, e14, e8, e9, e21, e22, w_j, cP3s, cCts]; and_intros <;> rfl)), by simp [e1, w_j, cP3s], by simp [e2, w_j], by simp [e3, w_j], by simp [e12, w_j, cP3s], by simp [e13, w_j], by simp [e14, w_j], by simp [e8, w_j], by simp [e9, w_j], by simp [e21, w_j, cCts], by simp [e22, w_j], by simp [w_j], by omega, by rw [set_get (fun e => hne.1 e.symm)]; exact g3T _, by rw [set_get (fun e => hne.2 e.symm)]; exact g8T _, by rw [hS]; exact set_self (g9T _), hne⟩⟩
    · have cj' : ¬ (j : Int) < ks.length := by omega
      rw [List.take_of_length_le (by omega)] at g9 g9T
      have hHa := bloom_Has (seed := fs) (h := h) (bits := bitsOf fs h n (othK ks pk)) (key := pk) f0 f1 (by omega)
      rw [hfo, Bool.true_and] at hHa
      simp only [cF, cP3, List.map_cons, List.map_nil] at g3T g8T g9T g9 g8 hHa
      cases hb2 : hasB fs h (bitsOf fs h n (othK ks pk)) pk with
      | true =>
        rw [hb2] at hHa
        rw [hbad hb2]
        simp -implicitDefEqProofs [e8, e9, e22, e23, cj', g8, g9, hHa, vmove, isNil]
      | false =>
        rw [hb2] at hHa
        simp -implicitDefEqProofs [e14, e8, e9, e22, e23, cj', g8, g9, hHa, vmove, isNil]
        have hno2 : ∀ j (hj : j < l.length), j < i + 1 → hasB fs h (bitsOf fs h n (othK ks l[j].2.1)) l[j].2.1 = false := fun j hj hji => by
          by_cases ej : j = i
          · subst ej; rw [hp]; exact hb2
          · exact hno j hj (by omega)
        exact ⟨(k - 1), by omega, (hI _ _).2 ⟨_, _, b3, i + 1, (by first | rfl | (simp [e1, e2, e3, e12, e13, w_i, cP3s]; done) | (simp [e1, e2, e3, e12, e13, w_i, cP3s]; rfl) | (simp [e1, e2, e3, e12, e13, w_i, cP3s]; and_intros <;> rfl)), by simp [e1, w_i, cP3s], by simp [e2, w_i], by simp [e3, w_i], by simp [e12, w_i, cP3s], by simp [e13, w_i], by simp [w_i], by omega, g3, hno2⟩⟩
  · have c' : ¬ (i : Int) < l.length := by omega
    have hall : faithB fs h n L l = true := by
      unfold faithB
      rw [List.all_eq_true]
      intro p hp
      obtain ⟨j, hj, rfl⟩ := List.getElem_of_mem hp
      rw [hks, hno j hj (by omega)]
      rfl
    rw [hall]
    simp -implicitDefEqProofs [e13, e14, c', vmove, isNil]
end Go.Proofs.YtmgnmnogiajlgaaF
end

section
/- JointTrue: what is Decoded is what came (no walk). -/
set_option maxRecDepth 8192
set_option maxHeartbeats 2000000
namespace Go.Proofs.YtmgnmnogiajlgaaF
open Go Go.Proofs.Vm

/-- The radar of what came. -/
def radOf (s h : Int) (bits rows cols : Nat) (L : List Pkt) : Rad := encRad s h bits rows cols (flows s h bits L) L
def swOf (s h : Int) (bits rows cols : Nat) (l : List P3) : List Rad := (List.range 3).map fun (a : Nat) => radOf s h bits rows cols (pkAt l (a : Int))
theorem pkAt_len (l : List P3) (a : Int) : (pkAt l a).length ≤ l.length := by
  unfold pkAt
  rw [List.length_map]
  exact List.length_filter_le _ _
theorem pkAt_mem {l : List P3} {a : Int} {x : Pkt} (h : x ∈ pkAt l a) : ∃ p ∈ l, p.1 = a ∧ p.2 = x := by
  obtain ⟨p, hp, e⟩ := List.mem_map.1 h
  obtain ⟨h1, h2⟩ := List.mem_filter.1 hp
  exact ⟨p, h1, by simpa using h2, e⟩
theorem flows_len {s h : Int} {bits : Nat} (hn : 1 ≤ bits) (L : List Pkt) : (flows s h bits L).length ≤ L.length := (fedS_facts (fs := hrow s 0) (h := h) hn L).2.2.1
theorem flows_snoc {s h : Int} {bits rows cols : Nat} {L : List Pkt} {k : ByteArray} {b : Int} : flows s h bits (L ++ [(k, b)]) = if freshB (radOf s h bits rows cols L) k = true then flows s h bits L ++ [k] else flows s h bits L := by
  unfold flows
  rw [fedS_snoc]
  unfold fedStep
  rw [fedS_L]
  have e : freshB (radOf s h bits rows cols L) k = !hasB (hrow s 0) h (bitsOf (hrow s 0) h bits L) k := rfl
  rw [e]
  cases hb : hasB (hrow s 0) h (bitsOf (hrow s 0) h bits L) k with
  | true => simp
  | false => simp
theorem radOf_add {s h : Int} {bits rows cols : Nat} (hb : 1 ≤ bits) {L : List Pkt} {k : ByteArray} {b : Int} : addRad (radOf s h bits rows cols L) k b = radOf s h bits rows cols (L ++ [(k, b)]) := by
  unfold radOf
  rw [encRad_add hb, flows_snoc (rows := rows) (cols := cols)]
  rfl
theorem radOf_ok {s h : Int} {bits rows cols : Nat} (hd : Dim h bits rows cols) {L : List Pkt} (hL : L.length ≤ 1000) (hb : ∀ x ∈ L, 0 ≤ x.2 ∧ x.2 ≤ 1073741824) : rOk (radOf s h bits rows cols L) = true :=
  encRad_ok hd (Nat.le_trans (flows_len hd.1 L) hL) hL hb
/-- The guards on packets. -/
def P3Ok (l : List P3) : Prop := l.length ≤ 30 ∧ ∀ p ∈ l, (0 ≤ p.1 ∧ p.1 ≤ 2) ∧ p.2.1.size = 37 ∧ 0 ≤ p.2.2 ∧ p.2.2 ≤ 1073741824
theorem true_rep {s h : Int} {bits rows cols : Nat} (hd : Dim h bits rows cols) {l : List P3} (hl : P3Ok l) (hf : ∀ a : Nat, a < 3 → faithB (hrow s 0) h bits (pkAt l a) l = true) {a : Nat} (ha : a < 3) {r : Rp} (hr : (repF (swOf s h bits rows cols l))[a]? = some r) (hdec : r.2 = true) : r.1 = plainF (pkAt l a) := by
  obtain ⟨Ls, hLs⟩ : ∃ Ls : List (List Pkt), (List.range 3).map (fun (a : Nat) => pkAt l (a : Int)) = Ls := ⟨_, rfl⟩
  have hks : ∀ L ∈ Ls, ∀ x ∈ L, x.1 ∈ l.map (·.2.1) := fun L hL x hx => by
    rw [← hLs] at hL
    obtain ⟨b, _, rfl⟩ := List.mem_map.1 hL
    obtain ⟨p, hp, _, e⟩ := pkAt_mem hx
    exact List.mem_map.2 ⟨p, hp, by rw [← e]⟩
  have h37 : ∀ k ∈ l.map (·.2.1), k.size = 37 := fun k hk => by
    obtain ⟨p, hp, rfl⟩ := List.mem_map.1 hk
    exact (hl.2 p hp).2.1
  have hAp : ∀ L ∈ Ls, Apart (hrow s 0) h bits (l.map (·.2.1)) L := fun L hL => by
    rw [← hLs] at hL
    obtain ⟨b, hb, rfl⟩ := List.mem_map.1 hL
    exact faith_apart hd.1 (hf b (List.mem_range.1 hb)) fun k hk => by
      obtain ⟨p, hp, rfl⟩ := List.mem_map.1 hk
      exact ⟨p, hp, rfl⟩
  have hLl : Ls.length = 3 := by rw [← hLs]; simp
  have hLa : ∀ (b : Nat) (hb : b < Ls.length), Ls[b] = pkAt l (b : Int) := fun b hb => by subst hLs; simp
  have hJ0 : JInv s h bits rows cols Ls ((swOf s h bits rows cols l).map fun r => (r, [])) := by
    refine ⟨by simp [swOf, hLl], fun j h1 h2 => ⟨flows s h bits Ls[j], ?_, ?_⟩⟩
    · simp only [List.getElem_map, swOf, List.getElem_range]
      rw [hLa]
      rfl
    · simp
  have hJ := jinv_all hd.1 hks h37 hAp (jpos ((swOf s h bits rows cols l).map fun r => (r, []))) hJ0
  change JInv s h bits rows cols Ls (jdec (swOf s h bits rows cols l)) at hJ
  have hSl : (swOf s h bits rows cols l).length = 3 := by simp [swOf]
  have hDl := jdec_len (swOf s h bits rows cols l)
  have haS : a < (jdec (swOf s h bits rows cols l)).length := by omega
  have haL : a < Ls.length := by omega
  have hzl : a < (repF (swOf s h bits rows cols l)).length := (List.getElem?_eq_some_iff.1 hr).1
  have hre : r = rep1 (radOf s h bits rows cols (pkAt l a)) ((jdec (swOf s h bits rows cols l))[a]) := by
    rw [List.getElem?_eq_getElem hzl] at hr
    rw [← Option.some.inj hr]
    simp only [repF, List.getElem_zipWith]
    congr 1
    simp [swOf]
  unfold rep1 at hre
  by_cases hc : (countsF (radOf s h bits rows cols (pkAt l a)) (ssort ((jdec (swOf s h bits rows cols l))[a]).2)).1 = 0 ∧ emptyB ((jdec (swOf s h bits rows cols l))[a]).1 = true
  rotate_left
  · rw [if_neg hc] at hre
    rw [hre] at hdec
    cases hdec
  rw [if_pos hc] at hre
  have hem : (((jdec (swOf s h bits rows cols l))[a]).1.rows.any (·.any fullC)) = false := by
    have := hc.2
    unfold emptyB at this
    simp only [Bool.and_eq_true, Bool.not_eq_true'] at this
    exact this.2
  have hend := jinv_end hd hJ haS haL hem
  rw [hLa] at hend
  rw [hre]
  dsimp only
  have hc1 := hc.1
  rw [hend] at hc1 ⊢
  have hLm : ∀ x ∈ pkAt l (a : Int), 0 ≤ x.2 ∧ x.2 ≤ 1073741824 := fun x hx => by
    obtain ⟨p, hp, _, e⟩ := pkAt_mem hx
    rw [← e]
    exact (hl.2 p hp).2.2
  have hmemL : pkAt l (a : Int) ∈ Ls := by rw [← hLa a haL]; exact List.getElem_mem _
  have hfm := flows_mem (s := s) (h := h) hd.1 (hks _ hmemL) (hAp _ hmemL)
  have hfn : (flows s h bits (pkAt l (a : Int))).Nodup := (fedS_facts (fs := hrow s 0) (h := h) hd.1 _).1
  have hpe := ssort_perm (flows s h bits (pkAt l (a : Int)))
  obtain ⟨k1, k2, k3, k4⟩ := keysOf_facts (pkAt l (a : Int))
  have hkeys : keysOf (pkAt l (a : Int)) = ssort (flows s h bits (pkAt l (a : Int))) := by
    refine srt_eq k1 (ssort_srt _) ?_
    refine List.Perm.trans ?_ hpe.symm
    exact (List.perm_ext_iff_of_nodup k2 hfn).2 fun k => (k3 k).trans (hfm k).symm
  have hct := counts_enc hd (K := flows s h bits (pkAt l (a : Int))) (keys := ssort (flows s h bits (pkAt l (a : Int)))) (L := pkAt l (a : Int)) (hpe.nodup_iff.2 hfn) (fun x hx => ssort_mem.2 ((hfm x.1).2 ⟨x.2, hx⟩)) (by have := pkAt_len l (a : Int); have := hl.1; omega) hLm hc1
  unfold radOf
  rw [hct, plainF, hkeys]
end Go.Proofs.YtmgnmnogiajlgaaF
end

section
/- The law: what is Decoded is just what came. -/
set_option maxRecDepth 8192
set_option maxHeartbeats 2000000
namespace Go.Proofs.YtmgnmnogiajlgaaF
open Go Go.Proofs.Vm

def cSz17 (seed bits hs rows cols : Int) : List CV := [.v (.int .u64 seed), .v (.int .i64 bits), .v (.int .i64 hs), .v (.int .i64 rows), .v (.int .i64 cols)]
theorem swOf_len (s h : Int) (bits rows cols : Nat) (l : List P3) : (swOf s h bits rows cols l).length = 3 := by simp [swOf]
theorem swOf_get {s h : Int} {bits rows cols : Nat} {l : List P3} {a : Nat} (ha : a < 3) : (swOf s h bits rows cols l)[a]? = some (radOf s h bits rows cols (pkAt l a)) := by simp [swOf, ha]
theorem swOf_snoc {s h : Int} {bits rows cols : Nat} {l : List P3} {a : Nat} {k : ByteArray} {b : Int} : (swOf s h bits rows cols l).set a (radOf s h bits rows cols (pkAt l a ++ [(k, b)])) = swOf s h bits rows cols (l ++ [((a : Int), k, b)]) := by
  apply List.ext_getElem (by simp [swOf])
  intro j h1 h2
  rw [List.getElem_set]
  simp only [swOf, List.getElem_map, List.getElem_range]
  rw [pkAt_snoc]
  by_cases e : a = j
  · subst e; rw [if_pos rfl, if_pos rfl]
  · rw [if_neg e, if_neg (by dsimp only; omega)]
theorem law_jtrue {s bits hs rows cols : Int} {l : List P3} (s0 : 0 ≤ s) (s1 : s < 18446744073709551616) (hl : l.length < 4611686018427387904) :
    TV.pu 3 [.agg (cSz17 s bits hs rows cols), .one (cP3s l)] = some (cB true) := by
  refine run3 (by simp) ?_
  have hA := law_awake17
  by_cases hd : 1 ≤ bits ∧ bits ≤ 256 ∧ 1 ≤ hs ∧ hs ≤ 7 ∧ 1 ≤ rows ∧ rows ≤ 7 ∧ 1 ≤ cols ∧ cols ≤ 256
  rotate_left
  · have hN := rd_New_arg (seed := s) s0 s1 hd
    simp only [cRad, zRad, cRws, cRw] at hN
    simp -implicitDefEqProofs [Try.f3, cSz17, cP3s, hN, hA, vmove, isNil, vstore, cellsOf?, Ent.wrO, wr]
  obtain ⟨b, rfl⟩ := Int.eq_ofNat_of_zero_le (show 0 ≤ bits by omega)
  obtain ⟨r, rfl⟩ := Int.eq_ofNat_of_zero_le (show 0 ≤ rows by omega)
  obtain ⟨c, rfl⟩ := Int.eq_ofNat_of_zero_le (show 0 ≤ cols by omega)
  have hdim : Dim hs b r c := by unfold Dim; omega
  have hN := rd_New (seed := s) (hh := hs) (bits := b) (rows := r) (cols := c) s0 s1 (by omega)
  by_cases h30 : l.length ≤ 30
  rotate_left
  · have h30' : 30 < (l.length : Int) := by omega
    simp only [cRad, cRws, cRw] at hN
    simp -implicitDefEqProofs [Try.f3, cSz17, cP3s, hN, hA, h30', vmove, isNil, vstore, cellsOf?, Ent.wrO, wr]
  have h30' : ¬ 30 < (l.length : Int) := by omega
  by_cases h40 : c ≤ 40
  rotate_left
  · have h40' : 40 < (c : Int) := by omega
    simp only [cRad, cRws, cRw] at hN
    simp -implicitDefEqProofs [Try.f3, cSz17, cP3s, hN, hA, h30', h40', vmove, isNil, vstore, cellsOf?, Ent.wrO, wr]
  have h40' : ¬ 40 < (c : Int) := by omega
  have hS := fun K L => encRad_seeds (s := s) (h := hs) (bits := b) (rows := r) (cols := c) (K := K) (L := L) s0 s1
  have hLe := fun K L => encRad_lens (s := s) (h := hs) (bits := b) (rows := r) (cols := c) (K := K) (L := L) hdim
  have hsw0 : (swOf s hs b r c []).map cRad = [cRad (newRad s b hs r c), cRad (newRad s b hs r c), cRad (newRad s b hs r c)] := by
    have : radOf s hs b r c [] = newRad s b hs r c := encRad_nil s hs b r c
    simp [swOf, pkAt, List.range, List.range.loop, this]
  have hfil : cRad (newRad s b hs r c) = .v (.int .u64 s) :: (cF (hrow s 0) hs (List.replicate b false) ++ [cRws (newRad s b hs r c).rows]) := rfl
  obtain ⟨rl, hrw0⟩ : ∃ x, cRws (newRad s b hs r c).rows = .arr x := ⟨_, rfl⟩
  rw [hrw0] at hfil
  obtain ⟨bl, hbl⟩ : ∃ bl, (List.replicate b false).map cB1 = bl := ⟨_, rfl⟩
  unfold cF at hfil
  rw [hbl] at hfil
  rw [hfil] at hN hsw0
  simp only [List.cons_append, List.nil_append] at hN hsw0
  simp -implicitDefEqProofs [Try.f3, cSz17, cP3s, hN, h30', h40', vmove, isNil, vstore, cellsOf?, Ent.wrO, wr, vbuildSlice_eq es36 el31, fzParts, setAll, rchParts, rch]
  have hPk : ∀ i, (l.take i).length ≤ 30 := fun i => by rw [List.length_take]; omega
  obtain ⟨I, hI⟩ : ∃ I : Nat → St → Prop, ∀ k s', I k s' ↔ (∃ e G d b5 i, s' = ⟨e, G⟩ ∧ e 1 = .one (.c (cP3s l)) ∧ e 5 = .one (.ptr ⟨b5, 0, 0, 1⟩) ∧ e 7 = .one (.sl d 0 3 3) ∧ e 47 = .one (.c (cP3s l)) ∧ e 48 = vI .i64 l.length ∧ e 49 = vI .i64 (i : Nat) ∧ (i + k = l.length) ∧ (G[b5]? = some (.opn [[.c (.v (.int .u64 s)), .c (.v (.int .u64 (hrow s 0))), .c (.v (.int .i64 hs)), .c (.arr bl), .c (.arr rl)]] false)) ∧ (G[d]? = some (.clo ((swOf s hs b r c (l.take i)).map cRad) false)) ∧ (P3Ok (l.take i)) ∧ (b5 ≠ d)) := ⟨_, fun _ _ => Iff.rfl⟩
  refine wpL_ind I ?_ l.length _ ((hI _ _).2 ⟨_, _, 4, 1, 0, (by first | rfl | (simp [cP3s]; done) | (simp [cP3s]; rfl) | (simp [cP3s]; and_intros <;> rfl)), by simp [cP3s], by simp, by simp, by simp [cP3s], by simp, by simp, by omega, by simp, by simp [hsw0], ⟨by simp, by simp⟩, by omega⟩)
  intro k stI hstI
  obtain ⟨e, G, d, b5, i, rfl, e1, e5, e7, e47, e48, e49, hi, g5, g7, hok, hne⟩ := (hI _ _).1 hstI
  by_cases ci : i < l.length
  · have c' : (i : Int) < l.length := by omega
    obtain ⟨pa, pk, pb, hp⟩ : ∃ pa pk pb, l[i] = (pa, pk, pb) := ⟨_, _, _, rfl⟩
    have hli : l[i]? = some (pa, pk, pb) := by rw [List.getElem?_eq_getElem ci, hp]
    have w_i : IntKind.i64.wrap ((i : Int) + 1) = ((i + 1 : Nat) : Int) := by rw [w64_id (by omega) (by omega)]; omega
    by_cases d1 : pa < 0
    · simp -implicitDefEqProofs [e47, e48, e49, c', hli, cP3s, cP3, hA, d1, vmove, isNil, vstore, cellsOf?, Ent.wrO, wr]
    by_cases d2 : 2 < pa
    · simp -implicitDefEqProofs [e47, e48, e49, c', hli, cP3s, cP3, hA, d1, d2, vmove, isNil, vstore, cellsOf?, Ent.wrO, wr]
    by_cases d3 : pk.size = 37
    rotate_left
    · have d3' : ¬ (pk.size : Int) = 37 := by omega
      simp -implicitDefEqProofs [e47, e48, e49, c', hli, cP3s, cP3, hA, d1, d2, d3', vmove, isNil, vstore, cellsOf?, Ent.wrO, wr]
    have d3' : (pk.size : Int) = 37 := by omega
    by_cases d4 : pb < 0
    · simp -implicitDefEqProofs [e47, e48, e49, c', hli, cP3s, cP3, hA, d1, d2, d3', d4, vmove, isNil, vstore, cellsOf?, Ent.wrO, wr]
    by_cases d5 : 1073741824 < pb
    · simp -implicitDefEqProofs [e47, e48, e49, c', hli, cP3s, cP3, hA, d1, d2, d3', d4, d5, vmove, isNil, vstore, cellsOf?, Ent.wrO, wr]
    obtain ⟨a, rfl⟩ := Int.eq_ofNat_of_zero_le (show 0 ≤ pa by omega)
    have ha3 : a < 3 := by omega
    have htk : l.take (i + 1) = l.take i ++ [((a : Int), pk, pb)] := by rw [List.take_add_one, hli]; rfl
    have hok2 : P3Ok (l.take (i + 1)) := ⟨hPk _, fun p hp => by
      rw [htk] at hp
      rcases List.mem_append.1 hp with h | h
      · exact hok.2 p h
      · rw [List.mem_singleton.1 h]; exact ⟨⟨by dsimp only; omega, by dsimp only; omega⟩, d3, by dsimp only; omega, by dsimp only; omega⟩⟩
    have hLm : ∀ x ∈ pkAt (l.take (i + 1)) (a : Int), 0 ≤ x.2 ∧ x.2 ≤ 1073741824 := fun x hx => by
      obtain ⟨p, hp, _, e⟩ := pkAt_mem hx
      rw [← e]
      exact (hok2.2 p hp).2.2
    have hpk2 : pkAt (l.take (i + 1)) (a : Int) = pkAt (l.take i) (a : Int) ++ [(pk, pb)] := by rw [htk, pkAt_snoc, if_pos rfl]
    have hrok2 := radOf_ok (s := s) hdim (L := pkAt (l.take (i + 1)) (a : Int)) (by have := pkAt_len (l.take (i + 1)) (a : Int); have := hPk (i + 1); omega) hLm
    have hrok1 := radOf_ok (s := s) hdim (L := pkAt (l.take i) (a : Int)) (by have := pkAt_len (l.take i) (a : Int); have := hPk i; omega) (fun x hx => hLm x (by rw [hpk2]; exact List.mem_append_left _ hx))
    have hA1 := rd_Add' (R := radOf s hs b r c (pkAt (l.take i) (a : Int))) (key := pk) (n := pb) (hS _ _) (hLe _ _) hrok1 d3 (by unfold fitB; rw [decide_eq_true (show 0 ≤ pb by omega), decide_eq_true (show pb ≤ 1099511627776 by omega)]; rfl)
    rw [radOf_add hdim.1, ← hpk2, hrok2, if_pos rfl] at hA1
    have hget := swOf_get (s := s) (h := hs) (bits := b) (rows := r) (cols := c) (l := l.take i) ha3
    have hset : (swOf s hs b r c (l.take i)).set a (radOf s hs b r c (pkAt (l.take (i + 1)) (a : Int))) = swOf s hs b r c (l.take (i + 1)) := by rw [hpk2, htk]; exact swOf_snoc
    have hsl := swOf_len s hs b r c (l.take i)
    obtain ⟨R1, hR1⟩ : ∃ R, radOf s hs b r c (pkAt (l.take i) (a : Int)) = R := ⟨_, rfl⟩
    obtain ⟨R2, hR2⟩ : ∃ R, radOf s hs b r c (pkAt (l.take (i + 1)) (a : Int)) = R := ⟨_, rfl⟩
    rw [hR1] at hA1 hget
    rw [hR2] at hA1 hset
    have g7l := (List.getElem?_eq_some_iff.1 g7).1
    have g5l := (List.getElem?_eq_some_iff.1 g5).1
    have g7T : ∀ T : Hp, (G ++ T)[d]? = some (.clo ((swOf s hs b r c (l.take i)).map cRad) false) := fun T => by rw [List.getElem?_append_left g7l]; exact g7
    have hst := st_rad (nest := false) (R := R2) (k := a) (n := 3) (g7T [.opn [(cP3 ((a : Int), pk, pb)).map .c] false]) (by omega) hsl
    rw [hset] at hst
    obtain ⟨G2, hG2⟩ : ∃ G2, (G ++ [Ent.opn [(cP3 ((a : Int), pk, pb)).map .c] false]).set d (.clo ((swOf s hs b r c (l.take (i + 1))).map cRad) false) = G2 := ⟨_, rfl⟩
    have g2d : G2[d]? = some (.clo ((swOf s hs b r c (l.take (i + 1))).map cRad) false) := by rw [← hG2]; exact set_self (g7T _)
    have g25 : G2[b5]? = some (.opn [[.c (.v (.int .u64 s)), .c (.v (.int .u64 (hrow s 0))), .c (.v (.int .i64 hs)), .c (.arr bl), .c (.arr rl)]] false) := by rw [← hG2, set_get hne, List.getElem?_append_left g5l]; exact g5
    rw [hG2] at hst
    have hbx : ∀ x y z : Cell, vstore Try.prog false (G ++ [.opn [[x, y, z]] false]) 38 (.one (.ptr ⟨G.length, 0, 0, 1⟩)) (.agg [.c (.v (.int .i64 (a : Int))), .c (.v (.string pk)), .c (.v (.int .i64 pb))]) = some (G ++ [.opn [[.c (.v (.int .i64 (a : Int))), .c (.v (.string pk)), .c (.v (.int .i64 pb))]] false]) := fun x y z => by
      simp [vstore, cellsOf?, Ent.wrO, wr]
    simp only [cRad, cRws, cRw, cP3, List.map_cons, List.map_nil] at hA1 hst
    simp -implicitDefEqProofs [e7, e47, e48, e49, c', hli, cP3s, cP3, d1, d2, d3', d4, d5, hbx, g7T, hsl, hget, hA1, hst, cRad, cRws, cRw, vmove, isNil]
    refine ⟨ha3, ?_⟩
    exact ⟨(k - 1), by omega, (hI _ _).2 ⟨_, G2, d, b5, i + 1, (by first | rfl | (simp [e1, e5, e7, e47, e48, w_i, cP3s]; done) | (simp [e1, e5, e7, e47, e48, w_i, cP3s]; rfl) | (simp [e1, e5, e7, e47, e48, w_i, cP3s]; and_intros <;> rfl)), by simp [e1, w_i, cP3s], by simp [e5, w_i], by simp [e7, w_i], by simp [e47, w_i, cP3s], by simp [e48, w_i], by simp [w_i], by omega, g25, g2d, hok2, hne⟩⟩
  · have c' : ¬ (i : Int) < l.length := by omega
    have hi' : i = l.length := by omega
    subst hi'
    rw [List.take_length] at g7 hok
    clear hPk
    simp -implicitDefEqProofs [e48, e49, c', vmove, isNil]
    obtain ⟨J, hJ⟩ : ∃ J : Nat → St → Prop, ∀ k2 s', J k2 s' ↔ (∃ e G d b5 a, s' = ⟨e, G⟩ ∧ e 1 = .one (.c (cP3s l)) ∧ e 5 = .one (.ptr ⟨b5, 0, 0, 1⟩) ∧ e 7 = .one (.sl d 0 3 3) ∧ e 10 = vI .i64 (a : Nat) ∧ (a + k2 = 3) ∧ (G[b5]? = some (.opn [[.c (.v (.int .u64 s)), .c (.v (.int .u64 (hrow s 0))), .c (.v (.int .i64 hs)), .c (.arr bl), .c (.arr rl)]] false)) ∧ (G[d]? = some (.clo ((swOf s hs b r c l).map cRad) false)) ∧ (∀ q : Nat, q < a → faithB (hrow s 0) hs b (pkAt l q) l = true)) := ⟨_, fun _ _ => Iff.rfl⟩
    refine wpL_ind J ?_ 3 _ ((hJ _ _).2 ⟨_, G, d, b5, 0, (by first | rfl | (simp [e1, e5, e7]; done) | (simp [e1, e5, e7]; rfl) | (simp [e1, e5, e7]; and_intros <;> rfl)), by simp [e1], by simp [e5], by simp [e7], by simp, by omega, g5, g7, fun q hq => by omega⟩)
    clear e1 e5 e7 e47 e48 e49 g5 g7
    intro k2 stJ hstJ
    obtain ⟨e, G, d, b5, a, rfl, e1, e5, e7, e10, ha, g5, g7, hf⟩ := (hJ _ _).1 hstJ
    by_cases ca : a < 3
    · have ca' : (a : Int) < 3 := by omega
      have hrg := hrow_range s 0
      have hFa := law_faithful (fs := hrow s 0) (h := hs) (n := b) (l := l) (at_ := (a : Int)) hrg.1 (by omega) ⟨hdim.2.2.1, hdim.2.2.2.1⟩ ⟨hdim.1, hdim.2.1⟩ (by omega) (fun p hp => (hok.2 p hp).2.2) (fun p hp => (hok.2 p hp).2.1)
      unfold cF at hFa
      rw [hbl] at hFa
      simp only [cP3s] at hFa
      have w_a : IntKind.i64.wrap ((a : Int) + 1) = ((a + 1 : Nat) : Int) := by rw [w64_id (by omega) (by omega)]; omega
      cases hfb : faithB (hrow s 0) hs b (pkAt l (a : Int)) l with
      | false =>
        rw [hfb] at hFa
        simp -implicitDefEqProofs [e1, e5, e10, ca', g5, cP3s, hFa, hA, vmove, isNil]
      | true =>
        rw [hfb] at hFa
        simp -implicitDefEqProofs [e1, e5, e10, ca', g5, cP3s, hFa, vmove, isNil]
        have hf2 : ∀ q : Nat, q < a + 1 → faithB (hrow s 0) hs b (pkAt l q) l = true := fun q hq => by
          by_cases e : q = a
          · rw [e]; exact hfb
          · exact hf q (by omega)
        exact ⟨(k2 - 1), by omega, (hJ _ _).2 ⟨_, G, d, b5, a + 1, (by first | rfl | (simp [e1, e5, e7, w_a]; done) | (simp [e1, e5, e7, w_a]; rfl) | (simp [e1, e5, e7, w_a]; and_intros <;> rfl)), by simp [e1, w_a], by simp [e5, w_a], by simp [e7, w_a], by simp [w_a], by omega, g5, g7, hf2⟩⟩
    · have ca' : ¬ (a : Int) < 3 := by omega
      have ha3 : a = 3 := by omega
      subst ha3
      have hSL : ∀ R ∈ swOf s hs b r c l, Seeds R ∧ Lens R := fun R hR => by
        obtain ⟨q, _, rfl⟩ := List.mem_map.1 hR
        exact ⟨hS _ _, hLe _ _⟩
      have hLm : ∀ (q : Int), ∀ x ∈ pkAt l q, 0 ≤ x.2 ∧ x.2 ≤ 1073741824 := fun q x hx => by
        obtain ⟨p, hp, _, e⟩ := pkAt_mem hx
        rw [← e]
        exact (hok.2 p hp).2.2
      have hdo : decOk (swOf s hs b r c l) = true := by
        unfold decOk
        rw [swOf_len, Bool.and_eq_true]
        refine ⟨rfl, List.all_eq_true.2 fun R hR => ?_⟩
        obtain ⟨q, _, rfl⟩ := List.mem_map.1 hR
        exact radOf_ok hdim (by have := pkAt_len l (q : Int); omega) (hLm _)
      have hsl := swOf_len s hs b r c l
      have hRp := jn_Reports hSL (fun e => by rw [e] at hsl; cases hsl) hdo
      have hTR := fun (q : Nat) (hq : q < 3) (rp : Rp) => true_rep (s := s) (h := hs) hdim hok hf (a := q) hq (r := rp)
      obtain ⟨SW, hSW⟩ : ∃ SW, swOf s hs b r c l = SW := ⟨_, rfl⟩
      rw [hSW] at g7 hRp hTR hsl
      have hRl : (repF SW).length = 3 := by simp [repF, jdec_len, hsl]
      obtain ⟨RP, hRP⟩ : ∃ RP, repF SW = RP := ⟨_, rfl⟩
      rw [hRP] at hRp hTR hRl
      have htS : List.take 3 (SW.map cRad) = SW.map cRad := List.take_of_length_le (by simp [hsl])
      have hPlA := fun (q : Nat) => law_plain (l := l) (at_ := (q : Int)) (by omega) (fun p hp => (hok.2 p hp).2.2)
      simp only [cRads, cReps] at hRp
      simp only [cP3s] at hPlA
      simp -implicitDefEqProofs [e7, e10, g7, hsl, htS, hRp, hRl, rcha, rch, frzAll, vmove, isNil]
      obtain ⟨Z, hZ⟩ : ∃ Z : Nat → St → Prop, ∀ k3 s', Z k3 s' ↔ (∃ e G a, s' = ⟨e, G⟩ ∧ e 1 = .one (.c (cP3s l)) ∧ e 11 = .one (.c (cReps RP)) ∧ e 13 = vI .i64 (a : Nat) ∧ (a + k3 = 3)) := ⟨_, fun _ _ => Iff.rfl⟩
      refine wpL_ind Z ?_ 3 _ ((hZ _ _).2 ⟨_, _, 0, (by first | rfl | (simp [e1, e5, e7, cReps]; done) | (simp [e1, e5, e7, cReps]; rfl) | (simp [e1, e5, e7, cReps]; and_intros <;> rfl)), by simp [e1], by simp [cReps], by simp, by omega⟩)
      clear e1 e5 e7 e10 g5 g7
      intro k3 stZ hstZ
      obtain ⟨e, G, a, rfl, e1, e11, e13, ha⟩ := (hZ _ _).1 hstZ
      by_cases ca : a < 3
      rotate_left
      · have ca' : ¬ (a : Int) < 3 := by omega
        simp -implicitDefEqProofs [e13, ca', hA, vmove, isNil]
      have ca2 : (a : Int) < 3 := by omega
      obtain ⟨fl, dec, hrp⟩ : ∃ fl dec, RP[a]'(by omega) = (fl, dec) := ⟨_, _, rfl⟩
      have hra : RP[a]? = some (fl, dec) := by rw [List.getElem?_eq_getElem (by omega), hrp]
      have w_a : IntKind.i64.wrap ((a : Int) + 1) = ((a + 1 : Nat) : Int) := by rw [w64_id (by omega) (by omega)]; omega
      cases dec with
      | false =>
        simp -implicitDefEqProofs [e11, e13, ca2, hra, cReps, cRep, vmove, isNil]
        exact ⟨(k3 - 1), by omega, (hZ _ _).2 ⟨_, _, a + 1, (by first | rfl | (simp [e1, e11, cP3s, cReps, w_a]; done) | (simp [e1, e11, cP3s, cReps, w_a]; rfl) | (simp [e1, e11, cP3s, cReps, w_a]; and_intros <;> rfl)), by simp [e1, cP3s, w_a], by simp [e11, cReps, w_a], by simp [w_a], by omega⟩⟩
      | true =>
      have hfl := hTR a ca _ hra rfl
      dsimp only at hfl
      have hPl := hPlA a
      rw [← hfl] at hPl
      have hfll : fl.length ≤ 1000 := by
        rw [hfl, plainF, List.length_map]
        have h1 := (keysOf_facts (pkAt l (a : Int))).2.2.2
        have h2 := pkAt_len l (a : Int)
        omega
      simp only [cCts] at hPl
      simp -implicitDefEqProofs [e1, e11, e13, ca2, hra, hPl, cReps, cRep, cP3s, cCts, vmove, isNil]
      obtain ⟨Q, hQ⟩ : ∃ Q : Nat → St → Prop, ∀ k4 s', Q k4 s' ↔ (∃ e G j, s' = ⟨e, G⟩ ∧ e 1 = .one (.c (cP3s l)) ∧ e 11 = .one (.c (cReps RP)) ∧ e 13 = vI .i64 (a : Nat) ∧ e 14 = .one (.c (cCts fl)) ∧ e 142 = vI .i64 fl.length ∧ e 143 = vI .i64 (j : Nat) ∧ (j + k4 = fl.length)) := ⟨_, fun _ _ => Iff.rfl⟩
      refine wpL_ind Q ?_ fl.length _ ((hQ _ _).2 ⟨_, _, 0, (by first | rfl | (simp [e1, e11, e13, cP3s, cReps, cCts]; done) | (simp [e1, e11, e13, cP3s, cReps, cCts]; rfl) | (simp [e1, e11, e13, cP3s, cReps, cCts]; and_intros <;> rfl)), by simp [e1, cP3s], by simp [e11, cReps], by simp [e13], by simp [cCts], by simp, by simp, by omega⟩)
      clear e1 e11 e13
      intro k4 stQ hstQ
      obtain ⟨e, G, j, rfl, e1, e11, e13, e14, e142, e143, hj⟩ := (hQ _ _).1 hstQ
      by_cases cj : j < fl.length
      · have cj' : (j : Int) < fl.length := by omega
        obtain ⟨x, y, z, hxyz⟩ : ∃ x y z, fl[j] = (x, y, z) := ⟨_, _, _, rfl⟩
        have hfj : fl[j]? = some (x, y, z) := by rw [List.getElem?_eq_getElem cj, hxyz]
        have w_j : IntKind.i64.wrap ((j : Int) + 1) = ((j + 1 : Nat) : Int) := by rw [w64_id (by omega) (by omega)]; omega
        simp -implicitDefEqProofs [e11, e13, e14, e142, e143, cj', hra, hfj, cReps, cRep, cCts, cCt, ct_bin, vmove, isNil]
        exact ⟨(k4 - 1), by omega, (hQ _ _).2 ⟨_, _, j + 1, (by first | rfl | (simp [e1, e11, e13, e14, e142, w_j, cP3s, cReps, cCts]; done) | (simp [e1, e11, e13, e14, e142, w_j, cP3s, cReps, cCts]; rfl) | (simp [e1, e11, e13, e14, e142, w_j, cP3s, cReps, cCts]; and_intros <;> rfl)), by simp [e1, w_j, cP3s], by simp [e11, w_j, cReps], by simp [e13, w_j], by simp [e14, w_j, cCts], by simp [e142, w_j], by simp [w_j], by omega⟩⟩
      · have cj' : ¬ (j : Int) < fl.length := by omega
        simp -implicitDefEqProofs [e13, e142, e143, cj', vmove, isNil]
        exact ⟨(k3 - 1), by omega, (hZ _ _).2 ⟨_, _, a + 1, (by first | rfl | (simp [e1, e11, cP3s, cReps, w_a]; done) | (simp [e1, e11, cP3s, cReps, w_a]; rfl) | (simp [e1, e11, cP3s, cReps, w_a]; and_intros <;> rfl)), by simp [e1, cP3s, w_a], by simp [e11, cReps, w_a], by simp [w_a], by omega⟩⟩
end Go.Proofs.YtmgnmnogiajlgaaF
end

section
/- How data of these laws open as closed values. -/
namespace Go.Proofs.YtmgnmnogiajlgaaF
open Go Go.Proofs.Vm

theorem isI_one {k : IntKind} {l : List CV} (h : isI k l) : ∃ n, l = [.v (.int k n)] ∧ k.min ≤ n ∧ n ≤ k.max := by
  obtain ⟨n, hx, hw⟩ := h
  simp only [Lit.wf, Bool.and_eq_true, decide_eq_true_eq] at hw
  exact ⟨n, hx, hw⟩
theorem u64_good {l : List CV} (h : isI .u64 l) : ∃ n, l = [.v (.int .u64 n)] ∧ 0 ≤ n ∧ n < 18446744073709551616 := by
  obtain ⟨n, rfl, h1, h2⟩ := isI_one h
  have e1 : IntKind.u64.min = 0 := rfl
  have e2 : IntKind.u64.max = 18446744073709551615 := rfl
  exact ⟨n, rfl, by omega, by omega⟩
theorem i64_good {l : List CV} (h : isI .i64 l) : ∃ n, l = [.v (.int .i64 n)] ∧ -9223372036854775808 ≤ n ∧ n < 9223372036854775808 := by
  obtain ⟨n, rfl, h1, h2⟩ := isI_one h
  have e1 : IntKind.i64.min = -9223372036854775808 := rfl
  have e2 : IntKind.i64.max = 9223372036854775807 := rfl
  exact ⟨n, rfl, by omega, by omega⟩
theorem bools_good {l : List CV} (h : good26 l) : ∃ b : List Bool, l = [.arr (b.map cB1)] ∧ b.length ≤ 140737488351232 := by
  obtain ⟨L, rfl, hg, hw⟩ := h
  obtain ⟨b, rfl, _⟩ := map_of (f := cB1) (g := fun _ => True) fun e he => by obtain ⟨x, hx⟩ := (hg e he).2; exact ⟨x, hx, trivial⟩
  rw [List.length_map] at hw
  exact ⟨b, rfl, by omega⟩
theorem cell_good {l : List CV} (h : good73 l) : ∃ c : RCl, l = cCl c := by
  obtain ⟨_, _, rfl, ⟨s, rfl, _⟩, _, _, rfl, h1, _, _, rfl, h2, h3⟩ := h
  obtain ⟨a, rfl, _⟩ := i64_good h1
  obtain ⟨b, rfl, _⟩ := i64_good h2
  obtain ⟨c, rfl, _⟩ := i64_good h3
  exact ⟨(s, a, b, c), rfl⟩
theorem row_good {l : List CV} (h : good70 l) : ∃ r : List RCl, l = [cRw r] ∧ r.length * 40 ≤ 140737488351232 := by
  obtain ⟨L, rfl, hg, hw⟩ := h
  obtain ⟨b, rfl, _⟩ := map_of (f := cCl) (g := fun _ => True) fun e he => by obtain ⟨x, hx⟩ := cell_good (hg e he).2; exact ⟨x, hx, trivial⟩
  rw [List.length_map] at hw
  exact ⟨b, rfl, hw⟩
theorem rad_good {l : List CV} (h : good31 l) : ∃ R : Rad, l = cRad R ∧ Seeds R ∧ Lens R ∧ Lens7 R := by
  obtain ⟨_, _, rfl, h1, _, _, rfl, ⟨_, _, rfl, h2, _, _, rfl, h3, h4⟩, L, rfl, hg, hw⟩ := h
  obtain ⟨s, rfl, s0, s1⟩ := u64_good h1
  obtain ⟨fs, rfl, s2, s3⟩ := u64_good h2
  obtain ⟨hh, rfl, _⟩ := i64_good h3
  obtain ⟨b, rfl, hb⟩ := bools_good h4
  obtain ⟨rows, rfl, hr⟩ := map_of (f := fun r : List RCl => [cRw r]) (g := fun r => r.length * 40 ≤ 140737488351232) fun e he => by
    obtain ⟨x, hx, h⟩ := row_good (hg e he).2
    exact ⟨x, hx, h⟩
  rw [List.length_map] at hw
  refine ⟨⟨s, fs, hh, b, rows⟩, rfl, ⟨s0, s1, s2, s3⟩, ⟨?_, fun x hx => ?_, ?_⟩, ?_, fun x hx => ?_⟩
  · show rows.length < _; omega
  · have := hr x hx; omega
  · show b.length < _; omega
  · show 24 * rows.length ≤ _; omega
  · have := hr x hx; omega
theorem cv_one {x y : CV} (h : [x] = [y]) : x = y := by cases h; rfl
end Go.Proofs.YtmgnmnogiajlgaaF
end

section
/- The laws of all data. -/
namespace Go.Proofs.YtmgnmnogiajlgaaF
open Go Go.Proofs.Vm

theorem p3s_good {l : List CV} (h : good25 l) : ∃ p : List P3, l = [cP3s p] ∧ p.length < 4611686018427387904 := by
  obtain ⟨L, rfl, hg, hw⟩ := h
  obtain ⟨b, rfl, _⟩ := map_of (f := cP3) (g := fun _ => True) fun e he => by
    obtain ⟨_, _, _, rfl, h1, _, _, rfl, ⟨s, rfl, _⟩, h2⟩ := hg e he
    obtain ⟨a, rfl, _⟩ := i64_good h1
    obtain ⟨c, rfl, _⟩ := i64_good h2
    exact ⟨(a, s, c), rfl, trivial⟩
  rw [List.length_map] at hw
  exact ⟨b, rfl, by omega⟩
theorem size17_good {l : List CV} (h : good24 l) : ∃ s a b c d, l = cSz17 s a b c d ∧ 0 ≤ s ∧ s < 18446744073709551616 := by
  obtain ⟨_, _, rfl, h1, _, _, rfl, h2, _, _, rfl, h3, _, _, rfl, h4, h5⟩ := h
  obtain ⟨s, rfl, s0, s1⟩ := u64_good h1
  obtain ⟨a, rfl, _⟩ := i64_good h2
  obtain ⟨b, rfl, _⟩ := i64_good h3
  obtain ⟨c, rfl, _⟩ := i64_good h4
  obtain ⟨d, rfl, _⟩ := i64_good h5
  exact ⟨s, a, b, c, d, rfl, s0, s1⟩
theorem lawJointTrue_all : ∀ l, goodsJointTrue l → TV.pu 3 l = some (cB true) := by
  rintro l ⟨a, r, rfl, ⟨x, rfl, _, h1⟩, b, r2, rfl, ⟨y, rfl, h2⟩, rfl⟩
  obtain ⟨s, n1, n2, n3, n4, rfl, s0, s1⟩ := size17_good h1
  obtain ⟨p, hy, hp⟩ := p3s_good h2
  rw [cv_one hy]
  exact law_jtrue s0 s1 hp
theorem lawJointAlone_all : ∀ l, goodsJointAlone l → TV.pu 4 l = some (cB true) := by
  rintro l ⟨a, r, rfl, ⟨x, rfl, _, h1⟩, rfl⟩
  obtain ⟨R, rfl, hs, hl, h7⟩ := rad_good h1
  exact law_jalone hs hl h7
end Go.Proofs.YtmgnmnogiajlgaaF
end
