/- Steps shared by the proofs of this seat's statements (part 3). -/
import Derived.Test.YtngpmpmhpggpgaaDoorS2
import Derived.Test.YtngpmpmhpggpgaaDoorS1
section
/- Offers by the document. -/
set_option maxRecDepth 8192
set_option maxHeartbeats 2000000
namespace Go.Proofs.YtngpmpmhpggpgaaDoorF
open Go Go.Proofs.Vm

def refOffer (room : Int) (m : List Itm) (k : ByteArray) (c : Int) : List Itm × Bool :=
  if (notK k m).length < m.length ∨ (m.length : Int) < room then (insL (k, c) (notK k m), true)
  else if ((m.getLast?.map (·.2)).getD 0) < c then (insL (k, c) m.dropLast, true) else (m, false)

def Srt (m : List Itm) : Prop := m.Pairwise fun a b => ordI a b < 0
structure Like (l m : List Itm) : Prop where
  perm : l.Perm m
  srt : Srt m
def Keys (l : List Itm) : Prop := (l.map (·.1)).Nodup

theorem insL_perm (x : Itm) : ∀ l, (insL x l).Perm (x :: l)
  | [] => .refl _
  | y :: r => by
    unfold insL
    split
    · exact .refl _
    · exact ((insL_perm x r).cons y).trans (.swap _ _ _)
theorem insL_srt (x : Itm) : ∀ l, Srt l → (∀ y ∈ l, y.1 ≠ x.1) → Srt (insL x l)
  | [], _, _ => by simp [insL, Srt]
  | y :: r, h, hk => by
    have h' := List.pairwise_cons.1 h
    unfold insL
    split
    · rename_i ha
      have ha : ordI x y < 0 := of_decide_eq_true ha
      refine List.pairwise_cons.2 ⟨fun z hz => ?_, h⟩
      rcases List.mem_cons.1 hz with rfl | hz
      · exact ha
      · exact ordI_trans ha (h'.1 z hz)
    · rename_i ha
      have ha : ¬ ordI x y < 0 := fun e => ha (decide_eq_true e)
      have hyx : ordI y x < 0 := by
        have h1 := ordI_neg x y
        have h2 : ordI x y ≠ 0 := fun e => hk y (by simp) (by rw [ordI_eq.1 e])
        omega
      refine List.pairwise_cons.2 ⟨fun z hz => ?_, insL_srt x r h'.2 fun z hz => hk z (by simp [hz])⟩
      rcases List.mem_cons.1 ((insL_perm x r).mem_iff.1 hz) with rfl | hz
      · exact hyx
      · exact h'.1 z hz

theorem eq_of_srt : ∀ {a b : List Itm}, a.Perm b → a.Pairwise (fun x y => ordI x y ≤ 0) → b.Pairwise (fun x y => ordI x y ≤ 0) → a = b
  | [], b, h, _, _ => h.nil_eq
  | x :: a, [], h, _, _ => by have := h.length_eq; simp at this
  | x :: a, y :: b, h, ha, hb => by
    have ha' := List.pairwise_cons.1 ha
    have hb' := List.pairwise_cons.1 hb
    have hxy : x = y := by
      have h1 : x ∈ y :: b := h.mem_iff.1 (by simp)
      have h2 : y ∈ x :: a := h.mem_iff.2 (by simp)
      rcases List.mem_cons.1 h1 with e | h1
      · exact e
      rcases List.mem_cons.1 h2 with e | h2
      · exact e.symm
      have k1 := hb'.1 x h1
      have k2 := ha'.1 y h2
      have k3 := ordI_neg x y
      exact ordI_eq.1 (by omega)
    subst hxy
    rw [eq_of_srt h.cons_inv ha'.2 hb'.2]
theorem isort_perm (l : List Itm) : (isort ordI l).Perm l := List.mergeSort_perm l _
theorem isort_srt (l : List Itm) : (isort ordI l).Pairwise fun x y => ordI x y ≤ 0 := by
  have h := List.pairwise_mergeSort (le := fun x y : Itm => decide (ordI x y ≤ 0)) (fun a b c h1 h2 => decide_eq_true (ordI_le_trans a b c (of_decide_eq_true h1) (of_decide_eq_true h2))) (fun a b => by
    rcases ordI_total a b with h | h
    · simp [h]
    · simp [h]) l
  exact h.imp fun h => of_decide_eq_true h
theorem Like.isort {l m : List Itm} (h : Like l m) : isort ordI l = m :=
  eq_of_srt ((isort_perm l).trans h.perm) (isort_srt l) (h.srt.imp fun h => by omega)

theorem ix_keys {l : List Itm} {m : SM} (h : Ix l m) : Keys l := by
  unfold Keys
  rw [List.nodup_iff_pairwise_ne, List.pairwise_iff_getElem]
  intro i j hi hj hij e
  simp only [List.getElem_map] at e
  have := h.inj (by simpa using hi) (by simpa using hj) e
  omega

/-- The one on top stands last. -/
theorem heap_top {l : List Itm} (h : HeapOk Ah l) (h0 : 0 < l.length) : ∀ (n j : Nat), j < n → ∀ hj : j < l.length, ordI l[j] l[0] ≤ 0 := by
  intro n
  induction n with
  | zero => intro j h; omega
  | succ n ih =>
    intro j hjn hj
    by_cases hj0 : j = 0
    · subst hj0
      rw [ordI_eq.2 rfl]; decide
    · exact ordI_le_trans _ _ _ (h j (by omega) hj) (ih _ (by omega) (by omega))

theorem set_notK {k : ByteArray} {c : Int} : ∀ {l : List Itm} {i : Nat} (h : i < l.length), l[i].1 = k → Keys l → (l.set i (k, c)).Perm ((k, c) :: notK k l)
  | x :: r, 0, _, hk, hn => by
    have hk : x.1 = k := hk
    have hn' := List.nodup_cons.1 hn
    have e : notK k (x :: r) = r := by
      unfold notK
      rw [List.filter_cons, if_neg (by simp [hk])]
      refine List.filter_eq_self.2 fun y hy => decide_eq_true fun e => hn'.1 ?_
      show x.1 ∈ r.map (·.1)
      rw [hk, ← e]
      exact List.mem_map_of_mem hy
    rw [e]
    exact .refl _
  | x :: r, i + 1, h, hk, hn => by
    have hn' := List.nodup_cons.1 hn
    have hi : i < r.length := by simpa using h
    have hk' : r[i].1 = k := hk
    have hx : ¬ x.1 = k := fun e => hn'.1 (by
      show x.1 ∈ r.map (·.1)
      rw [e, ← hk']
      exact List.mem_map_of_mem (List.getElem_mem hi))
    have e : notK k (x :: r) = x :: notK k r := by
      unfold notK
      rw [List.filter_cons, if_pos (by simp [hx])]
    rw [e]
    exact ((set_notK hi hk' hn'.2).cons x).trans (.swap _ _ _)
theorem notK_self {k : ByteArray} {m : List Itm} (h : ∀ x ∈ m, x.1 ≠ k) : notK k m = m := List.filter_eq_self.2 fun y hy => decide_eq_true (h y hy)
theorem notK_ne {k : ByteArray} {m : List Itm} : ∀ y ∈ notK k m, y.1 ≠ k := fun _y hy => of_decide_eq_true (List.mem_filter.1 hy).2
theorem notK_lt {k : ByteArray} {m : List Itm} {x : Itm} (h : x ∈ m) (hk : x.1 = k) : (notK k m).length < m.length := by
  rcases Nat.lt_or_ge (notK k m).length m.length with g | g
  · exact g
  · exfalso
    have : notK k m = m := List.filter_eq_self.2 ((List.filter_sublist (l := m)).eq_of_length_le g ▸ fun a ha => (List.mem_filter.1 ha).2)
    exact notK_ne x (by rw [this]; exact h) hk

theorem Like.last {l m : List Itm} (h : Like l m) (hh : HeapOk Ah l) (h0 : 0 < l.length) : m.getLast? = some l[0] := by
  have hm : m ≠ [] := by rintro rfl; have := h.perm.length_eq; rw [List.length_nil] at this; omega
  rw [List.getLast?_eq_some_getLast hm]
  congr 1
  have h1 : m.getLast hm ∈ l := h.perm.mem_iff.2 (List.getLast_mem hm)
  obtain ⟨j, hj, e⟩ := List.getElem_of_mem h1
  have k1 := heap_top hh h0 (j + 1) j (Nat.lt_succ_self _) hj
  rw [e] at k1
  have h2 : l[0] ∈ m := h.perm.mem_iff.1 (List.getElem_mem h0)
  have h3 := h.srt
  have hsplit : m = m.dropLast ++ [m.getLast hm] := (List.dropLast_concat_getLast hm).symm
  rw [hsplit] at h2 h3
  rcases List.mem_append.1 h2 with h2 | h2
  · have k2 := (List.pairwise_append.1 h3).2.2 _ h2 (m.getLast hm) (List.mem_singleton.2 rfl)
    have k3 := ordI_neg (m.getLast hm) l[0]
    omega
  · exact (List.mem_singleton.1 h2).symm

theorem offer_like {room : Int} {l m : List Itm} {k : ByteArray} {c : Int} {b : Bool} {l' : List Itm} (hk : Keys l) (hh : HeapOk Ah l) (hL : Like l m) (ho : OfferR room l k c b l') : Like l' (refOffer room m k c).1 ∧ b = (refOffer room m k c).2 := by
  have hlen := hL.perm.length_eq
  have hsn : ∀ k, Srt (notK k m) := fun k => hL.srt.sublist List.filter_sublist
  unfold refOffer
  rcases ho with ⟨i, hi, hki, rfl, hp⟩ | ⟨hno, ho⟩
  · rw [if_pos (Or.inl (notK_lt (hL.perm.mem_iff.1 (List.getElem_mem hi)) hki))]
    exact ⟨⟨hp.trans ((set_notK hi hki hk).trans (((hL.perm.filter _).cons _).trans (insL_perm _ _).symm)), insL_srt _ _ (hsn k) fun y hy => notK_ne y hy⟩, rfl⟩
  · have hnm : ∀ x ∈ m, x.1 ≠ k := fun x hx => by
      obtain ⟨i, hi, rfl⟩ := List.getElem_of_mem (hL.perm.mem_iff.2 hx)
      exact hno i hi
    rw [notK_self hnm]
    rcases ho with ⟨hr, rfl, hp⟩ | ⟨hr, h0, ho⟩
    · rw [if_pos (Or.inr (by omega))]
      exact ⟨⟨hp.trans ((List.perm_append_comm (l₁ := l)).trans ((hL.perm.cons _).trans (insL_perm _ _).symm)), insL_srt _ _ hL.srt hnm⟩, rfl⟩
    · rw [if_neg (by omega), hL.last hh h0]
      have hm : m ≠ [] := by rintro rfl; rw [List.length_nil] at hlen; omega
      rcases ho with ⟨hc, rfl, hp⟩ | ⟨hc, rfl, rfl⟩
      · rw [if_pos (by simpa using hc)]
        refine ⟨⟨hp.trans ?_, insL_srt _ _ (hL.srt.sublist (List.dropLast_sublist m)) fun y hy => hnm y ((List.dropLast_sublist m).subset hy)⟩, rfl⟩
        refine .trans ?_ (insL_perm _ _).symm
        have hl := hL.last hh h0
        rw [List.getLast?_eq_some_getLast hm] at hl
        have e1 : m = m.dropLast ++ [l[0]] := by rw [← Option.some.inj hl]; exact (List.dropLast_concat_getLast hm).symm
        have e2 : l = l[0] :: l.tail := by cases l with | nil => simp at h0 | cons a r => rfl
        have e3 : l.set 0 (k, c) = (k, c) :: l.tail := by cases l with | nil => simp at h0 | cons a r => rfl
        rw [e3]
        refine .cons _ ?_
        have h5 : (l[0] :: l.tail).Perm (l[0] :: m.dropLast) := by
          rw [← e2]
          refine hL.perm.trans ?_
          conv => lhs; rw [e1]
          exact List.perm_append_comm
        exact h5.cons_inv
      · rw [if_neg (by simpa using hc)]
        exact ⟨hL, rfl⟩

theorem refOffer_len {room : Int} {m : List Itm} {k : ByteArray} {c : Int} : (refOffer room m k c).1.length ≤ m.length + 1 := by
  have h1 : (notK k m).length ≤ m.length := List.length_filter_le _ _
  unfold refOffer
  split
  · rw [insL_len]; omega
  · split
    · rw [insL_len, List.length_dropLast]; omega
    · exact Nat.le_succ _
theorem refOffer_pos {room : Int} {m : List Itm} {k : ByteArray} {c : Int} (hr : 1 ≤ room) : 0 < (refOffer room m k c).1.length := by
  unfold refOffer
  split
  · rw [insL_len]; omega
  · rename_i h
    split
    · rw [insL_len]; omega
    · show 0 < m.length
      omega

/-- What an offer leaves is as long as before, or by one longer, and never above room. -/
theorem offer_len {room : Int} {l : List Itm} {k : ByteArray} {c : Int} {b : Bool} {l' : List Itm} (ho : OfferR room l k c b l') : l'.length ≤ l.length + 1 ∧ 0 < l'.length ∧ ((l.length : Int) ≤ room → (l'.length : Int) ≤ room) := by
  rcases ho with ⟨i, hi, _, _, hp⟩ | ⟨_, ⟨hr, _, hp⟩ | ⟨hr, h0, ⟨_, _, hp⟩ | ⟨_, _, rfl⟩⟩⟩
  · have := hp.length_eq; simp at this; omega
  · have := hp.length_eq; simp at this; omega
  · have := hp.length_eq; simp at this; omega
  · exact ⟨Nat.le_succ _, h0, id⟩

end Go.Proofs.YtngpmpmhpggpgaaDoorF
namespace Go.Proofs.YtngpmpmhpggpgaaDoorF
open Go Go.Proofs.Vm

end Go.Proofs.YtngpmpmhpggpgaaDoorF
end

section
/- A heap to which all was offered. -/
set_option maxRecDepth 8192
set_option maxHeartbeats 2000000
namespace Go.Proofs.YtngpmpmhpggpgaaDoorF
open Go Go.Proofs.Vm

/-- A heap, in its first three places. -/
def hZ (K : Hp) (room : Int) (l : List Itm) (M : MS) (L : Hp) : Hp :=
  K ++ M.ent :: .clo (l.map cItm) false :: .opn [[.c (.v (.int .i64 room)), .sl (K.length + 1) 0 l.length l.length, .mp K.length]] false :: L
def K3 (K : Hp) : Hp := K ++ [.clo [] false, .clo [] false, .clo [] false]
theorem three (K : Hp) : Three (K3 K) (K.length + 1) K.length (K.length + 2) := ⟨by simp [K3], by simp [K3], by simp [K3], by omega, by omega, by omega⟩
theorem hZ_eq (K : Hp) (room : Int) (l : List Itm) (M : MS) (L : Hp) : hH (K3 K) (K.length + 2) (K.length + 1) K.length room l M L = hZ K room l M L := by
  simp [hH, hq, hZ, K3]

theorem hZ_len (K : Hp) (room : Int) (l : List Itm) (M : MS) (L : Hp) : (hZ K room l M L).length = K.length + L.length + 3 := by simp [hZ]; omega
theorem hZ_app (K : Hp) (room : Int) (l : List Itm) (M : MS) (L R : Hp) : hZ K room l M L ++ R = hZ K room l M (L ++ R) := by simp [hZ]
theorem hZ_get (K : Hp) (room : Int) (l : List Itm) (M : MS) (L : Hp) (j : Nat) : (hZ K room l M L)[K.length + j + 3]? = L[j]? := by
  unfold hZ
  rw [List.getElem?_append_right (by omega), show K.length + j + 3 - K.length = j + 1 + 1 + 1 by omega]
  rfl
theorem hZ_set (K : Hp) (room : Int) (l : List Itm) (M : MS) (L : Hp) (j : Nat) (u : Ent) : (hZ K room l M L).set (K.length + j + 3) u = hZ K room l M (L.set j u) := by
  unfold hZ
  rw [List.set_append_right _ _ (by omega), show K.length + j + 3 - K.length = j + 1 + 1 + 1 by omega]
  rfl
theorem hZ0_len (room : Int) (l : List Itm) (M : MS) (L : Hp) : (hZ [] room l M L).length = L.length + 3 := rfl
theorem hZ0_get (room : Int) (l : List Itm) (M : MS) (L : Hp) (j : Nat) : (hZ [] room l M L)[j + 3]? = L[j]? := rfl
theorem hZ0_gete (room : Int) (l : List Itm) (M : MS) (L : Hp) (j : Nat) (h : j + 3 < (hZ [] room l M L).length) : (hZ [] room l M L)[j + 3]'h = L[j]'(Nat.lt_of_add_lt_add_right h) := rfl
theorem hZ0_set (room : Int) (l : List Itm) (M : MS) (L : Hp) (j : Nat) (u : Ent) : (hZ [] room l M L).set (j + 3) u = hZ [] room l M (L.set j u) := rfl
section
variable {K : Hp} {room : Int} {l : List Itm} {M : MS} {L : Hp}
theorem offerZ (hr1 : 1 ≤ room) (hv : Inv l M) (hl : l.length < 500) (key : ByteArray) (count : Int) :
    ∃ b l' M' G, TV.S 30 [hP (K.length + 2), vS key, vI .i64 count] (hZ K room l M L) = some (vB b, hZ K room l' M' (L ++ G)) ∧ Inv l' M' ∧ OfferR room l key count b l' := by
  obtain ⟨a, K', e, b, l', M', G, rfl, rfl, h1, h2⟩ := offer (three K) (L := L) hr1 hv hl key count
  rw [hZ_eq, hZ_eq] at e
  exact ⟨b, l', M', G, e, h1, h2⟩
theorem listZ (hl : l.length < 1000) : TV.S 32 [hP (K.length + 2)] (hZ K room l M L) = some (.one (.sl (K.length + L.length + 5) 0 l.length l.length), hZ K room l M (L ++ [.clo [] false, .clo [] false, .clo ((isort ordI l).map cItm) false])) := by
  have e := list_ (three K) (room := room) (M := M) (L := L) hl
  rw [hZ_eq, hZ_eq] at e
  rw [e]
  simp [K3]
  omega
theorem newZ {H : Hp} (h1 : 1 ≤ room) (h2 : room ≤ 64) : TV.S 42 [vI .i64 room] H = some (hP (H.length + 2), hZ H room [] MS.empty []) := new_yes h1 h2
end
theorem inv_nil : Inv [] MS.empty := ⟨ix_nil, MS.empty_ok, heap_nil⟩
theorem like_nil : Like [] [] := ⟨.refl _, .nil⟩

/-- All offered, one after the other. -/
def refAll (room : Int) (l : List Itm) : List Itm := l.foldl (fun m x => (refOffer room m x.1 x.2).1) []
theorem refAll_snoc (room : Int) (l : List Itm) (x : Itm) : refAll room (l ++ [x]) = (refOffer room (refAll room l) x.1 x.2).1 := by simp [refAll]
theorem refAll_take {room : Int} {l : List Itm} {i : Nat} (h : i < l.length) : refAll room (l.take (i + 1)) = (refOffer room (refAll room (l.take i)) l[i].1 l[i].2).1 := by
  rw [List.take_add_one, List.getElem?_eq_getElem h]
  exact refAll_snoc _ _ _

/-- What stands in a heap after so many offers. -/
structure Told (room : Int) (l : List Itm) (M : MS) (m : List Itm) (n : Nat) : Prop where
  inv : Inv l M
  like : Like l m
  few : l.length ≤ n
  room : (l.length : Int) ≤ room
  pos : 0 < n → 0 < l.length
theorem told_nil {room : Int} (h : 1 ≤ room) : Told room [] MS.empty [] 0 := ⟨inv_nil, like_nil, Nat.le_refl _, by simp; omega, fun h => absurd h (Nat.lt_irrefl _)⟩
theorem Told.step {room : Int} {l m : List Itm} {M : MS} {n : Nat} (T : Told room l M m n) {k : ByteArray} {c : Int} {b : Bool} {l' : List Itm} {M' : MS} (hv : Inv l' M') (ho : OfferR room l k c b l') : Told room l' M' (refOffer room m k c).1 (n + 1) ∧ b = (refOffer room m k c).2 := by
  obtain ⟨h1, h2⟩ := offer_like (ix_keys T.inv.ix) T.inv.hp T.like ho
  obtain ⟨k1, k2, k3⟩ := offer_len ho
  exact ⟨⟨hv, h1, by have := T.few; omega, k3 T.room, fun _ => k2⟩, h2⟩

theorem of_yes {room : Int} {H : Hp} {l : List Itm} (h1 : 1 ≤ room) (h2 : room ≤ 64) (hl : l.length < 400) : ∃ a K, TV.S 29 [vI .i64 room, .one (.c (cItms l))] H = some (a, K) ∧ ∃ l' M G, a = hP (H.length + 2) ∧ K = hZ H room l' M G ∧ Told room l' M (refAll room l) l.length := by
  refine runX29 (by simp) (by rintro a K' ⟨l', M, G, -, rfl, -⟩; simp [hZ]) ?_
  have hn := newZ (H := H) h1 h2
  simp only [hP] at hn
  simp -implicitDefEqProofs [Tryd.f29, cItms, hn]
  obtain ⟨I, hI⟩ : ∃ I : Nat → St → Prop, ∀ n s', I n s' ↔ (∃ e i l' M G, s' = ⟨e, hZ H room l' M G⟩ ∧ e 5 = hP (H.length + 2) ∧ e 10 = .one (.c (.arr (l.map cItm))) ∧ e 11 = vI .i64 l.length ∧ e 12 = vI .i64 (i : Nat) ∧ i + n = l.length ∧ Told room l' M (refAll room (l.take i)) i) := ⟨_, fun _ _ => Iff.rfl⟩
  refine wpL_ind I ?_ l.length _ ((hI _ _).2 ⟨_, 0, [], MS.empty, [], rfl, by simp [hP], by simp, by simp, by simp, by omega, told_nil h1⟩)
  intro n st hst
  obtain ⟨e, i, l', M, G, rfl, e5, e10, e11, e12, hk, T⟩ := (hI _ _).1 hst
  by_cases c : i < l.length
  · have w1 : IntKind.i64.wrap ((i : Int) + 1) = ((i + 1 : Nat) : Int) := by rw [w64_id (by omega) (by omega)]; omega
    obtain ⟨b, l2, M2, G2, eo, v2, o2⟩ := offerZ (K := H) (L := G ++ [.opn [[.c (.v (.string l[i].1)), .c (.v (.int .i64 l[i].2))]] false]) h1 T.inv (by have := T.few; omega) l[i].1 l[i].2
    obtain ⟨T2, -⟩ := T.step v2 o2
    rw [← refAll_take c] at T2
    have zl := hZ_len H room l' M G
    have za := hZ_app H room l' M
    have zg : ∀ x, (hZ H room l' M (G ++ [x]))[H.length + G.length + 3]? = some x := fun x => by rw [hZ_get]; simp
    have zs : ∀ x y, (hZ H room l' M (G ++ [x])).set (H.length + G.length + 3) y = hZ H room l' M (G ++ [y]) := fun x y => by rw [hZ_set]; simp
    simp only [hP] at eo
    simp -implicitDefEqProofs [e5, e10, e11, e12, c, hP, cItm, zl, za, zg, zs, eo, w1, vstore, cellsOf?, Ent.wrO, wr]
    exact ⟨n - 1, by omega, (hI _ _).2 ⟨_, i + 1, _, _, _, rfl, by simp [e5, hP], by simp [e10], by simp [e11], by simp, by omega, T2⟩⟩
  · have hi : i = l.length := by omega
    subst hi
    rw [List.take_of_length_le (Nat.le_refl _)] at T
    simp -implicitDefEqProofs [e5, e11, e12]
    exact ⟨l', M, ⟨G, rfl⟩, T⟩

/-! The same, with what lies behind told by what was there. -/
def Grow (L L' : Hp) : Prop := ∃ G, L' = L ++ G
theorem Grow.refl (L : Hp) : Grow L L := ⟨[], by simp⟩
theorem Grow.trans {A B C : Hp} (h : Grow A B) (k : Grow B C) : Grow A C := by
  obtain ⟨G, rfl⟩ := h; obtain ⟨G', rfl⟩ := k; exact ⟨G ++ G', by simp⟩
theorem Grow.app (L : Hp) (R : Hp) : Grow L (L ++ R) := ⟨R, rfl⟩
theorem Grow.get {L L' : Hp} (h : Grow L L') {j : Nat} {x : Ent} (g : L[j]? = some x) : L'[j]? = some x := by
  obtain ⟨G, rfl⟩ := h
  rw [List.getElem?_append_left (List.getElem?_eq_some_iff.1 g).1]; exact g

def hP2 : AV := .one (.ptr ⟨2, 0, 0, 1⟩)
section
variable {room : Int} {l : List Itm} {M : MS} {L : Hp}
theorem offerO (hr1 : 1 ≤ room) (hv : Inv l M) (hl : l.length < 500) (key : ByteArray) (count : Int) :
    ∃ b l' M' L', TV.S 30 [hP2, vS key, vI .i64 count] (hZ [] room l M L) = some (vB b, hZ [] room l' M' L') ∧ Grow L L' ∧ Inv l' M' ∧ OfferR room l key count b l' := by
  obtain ⟨b, l', M', G, e, h1, h2⟩ := offerZ (K := []) (L := L) hr1 hv hl key count
  exact ⟨b, l', M', _, e, .app _ _, h1, h2⟩
theorem listO (hl : l.length < 1000) : ∃ id L', TV.S 32 [hP2] (hZ [] room l M L) = some (.one (.sl id 0 l.length l.length), hZ [] room l M L') ∧ Grow L L' ∧ (hZ [] room l M L')[id]? = some (.clo ((isort ordI l).map cItm) false) := by
  have e := listZ (K := []) (room := room) (M := M) (L := L) hl
  refine ⟨_, _, e, .app _ _, ?_⟩
  simp only [List.length_nil, Nat.zero_add]
  rw [hZ0_get (j := L.length + 2), List.getElem?_append_right (by omega), Nat.add_sub_cancel_left]
  rfl
end
/-- To which all was offered, and its list. -/
theorem ofList {room : Int} {H : Hp} {l : List Itm} (h1 : 1 ≤ room) (h2 : room ≤ 64) (hl : l.length < 400) : ∃ p K' id K'', TV.S 29 [vI .i64 room, .one (.c (.arr (l.map cItm)))] H = some (p, K') ∧ TV.S 32 [p] K' = some (.one (.sl id 0 (refAll room l).length (refAll room l).length), K'') ∧ Grow H K'' ∧ K''[id]? = some (.clo ((refAll room l).map cItm) false) := by
  obtain ⟨a, K, e, l', M, G, rfl, rfl, T⟩ := of_yes (H := H) h1 h2 hl
  have e2 := listZ (K := H) (room := room) (M := M) (L := G) (l := l') (by have := T.few; omega)
  rw [T.like.isort, T.like.perm.length_eq] at e2
  refine ⟨_, _, _, _, e, e2, ⟨_, rfl⟩, ?_⟩
  rw [show H.length + G.length + 5 = H.length + (G.length + 2) + 3 by omega, hZ_get, List.getElem?_append_right (by omega), Nat.add_sub_cancel_left]
  rfl
end Go.Proofs.YtngpmpmhpggpgaaDoorF
end

section
/- Signs. -/
namespace Go.Proofs.YtngpmpmhpggpgaaDoorF
open Go Go.Proofs.Vm
theorem hash_Sign {seed : Int} {s : ByteArray} (h0 : 0 ≤ seed) (h1 : seed < 18446744073709551616) (hs : s.size ≤ 140737488351232) : TV.pu 60 [cI .u64 seed, cS s] = some (cI .i64 (hsign seed s)) := by
  refine run60 (by simp) ?_
  have hr := hsum_range seed s
  have e1 := and_1 (hsum seed s) hr.1 (by omega)
  have e2 : IntKind.i64.wrap (hsum seed s % 2) = hsum seed s % 2 := w64_id (by omega) (by omega)
  have e3 : IntKind.i64.wrap (hsum seed s % 2 * 2) = hsum seed s % 2 * 2 := w64_id (by omega) (by omega)
  have e4 : IntKind.i64.wrap (hsum seed s % 2 * 2 - 1) = hsum seed s % 2 * 2 - 1 := w64_id (by omega) (by omega)
  simp [Tryd.f60, hash_Sum h0 h1 hs, e1, e2, e3, e4, hsign]
end Go.Proofs.YtngpmpmhpggpgaaDoorF
end

section
/- Sketches of signed counts: are they right? -/
set_option maxRecDepth 8192
set_option maxHeartbeats 2000000
namespace Go.Proofs.YtngpmpmhpggpgaaDoorF
open Go Go.Proofs.Vm

def fitsB (n : Int) : Bool := decide (-1099511627776 ≤ n) && decide (n ≤ 1099511627776)
theorem signed_fits (n : Int) : TV.pu 39 [cI .i64 n] = some (cB (fitsB n)) := by
  refine run39 (by simp) ?_
  by_cases h : -1099511627776 ≤ n <;> simp [Tryd.f39, h, fitsB]

theorem signed_lam (n : Int) : TV.pu 51 [cI .i64 n] = some (cB (!fitsB n)) := by
  refine run51 (by simp) ?_
  simp [Tryd.f51, signed_fits]

theorem index_row {g : CV} {caps : List CV} {f : FuncId} (hg : g = .fn f caps) {p : Int → Bool} {r : List Int} (hp : ∀ n ∈ r, TV.pu f (cI .i64 n :: caps.map .one) = some (cB (p n))) (hl : r.length < 9223372036854775807) :
    TV.pu 69 [.one (cRow r), .one g] = some (cI .i64 (idxF p r)) := by
  subst hg
  refine run69 (by simp) ?_
  simp [Tryd.f69, cRow]
  obtain ⟨I, hI⟩ : ∃ I : Nat → St → Prop, ∀ k s', I k s' ↔ (∃ e j, s' = ⟨e, []⟩ ∧ e 0 = .one (.c (cRow r)) ∧ e 1 = .one (.c (.fn f caps)) ∧ e 7 = vI .i64 r.length ∧ e 8 = vI .i64 (j : Nat) ∧ j + k = r.length ∧ ∀ q, q < j → ∀ x, r[q]? = some x → p x = false) := ⟨_, fun _ _ => Iff.rfl⟩
  refine wpL_ind I ?_ r.length _ ((hI _ _).2 ⟨_, 0, rfl, by simp [cRow], by simp, by simp, by simp, by omega, by simp⟩)
  intro k st hst
  obtain ⟨e, j, rfl, e0, e1, e7, e8, hk, hno⟩ := (hI _ _).1 hst
  by_cases c : j < r.length
  · have hx : r[j]? = some r[j] := List.getElem?_eq_getElem c
    have hpj := hp r[j] (List.getElem_mem c)
    have w1 : IntKind.i64.wrap ((j : Int) + 1) = ((j + 1 : Nat) : Int) := by rw [w64_id (by omega) (by omega)]; omega
    simp [e0, e1, e7, e8, cRow, c, hpj, w1, cInt]
    by_cases hj : p r[j] = true
    · simp [hj, idxF_at p r j c hj hno]
    · simp [hj]
      refine ⟨k - 1, by omega, (hI _ _).2 ⟨_, j + 1, rfl, by simp [e0], by simp [e1], by simp [e7], by simp, by omega, ?_⟩⟩
      intro q hq x hx2
      by_cases hqj : q = j
      · subst hqj
        rw [hx] at hx2
        cases hx2
        simpa using hj
      · exact hno q (by omega) x hx2
  · have c' : ¬ (j : Int) < (r.length : Int) := by omega
    simp [e0, e1, e7, e8, c']
    rw [idxF_none p r fun q hq => hno q (by omega)]
theorem index_rows {g : CV} {caps : List CV} {f : FuncId} (hg : g = .fn f caps) {p : List Int → Bool} {r : List (List Int)} (hp : ∀ n ∈ r, TV.pu f (.one (cRow n) :: caps.map .one) = some (cB (p n))) (hl : r.length < 9223372036854775807) :
    TV.pu 68 [.one (cRows r), .one g] = some (cI .i64 (idxF p r)) := by
  subst hg
  refine run68 (by simp) ?_
  simp [Tryd.f68, cRows]
  obtain ⟨I, hI⟩ : ∃ I : Nat → St → Prop, ∀ k s', I k s' ↔ (∃ e j, s' = ⟨e, []⟩ ∧ e 0 = .one (.c (cRows r)) ∧ e 1 = .one (.c (.fn f caps)) ∧ e 7 = vI .i64 r.length ∧ e 8 = vI .i64 (j : Nat) ∧ j + k = r.length ∧ ∀ q, q < j → ∀ x, r[q]? = some x → p x = false) := ⟨_, fun _ _ => Iff.rfl⟩
  refine wpL_ind I ?_ r.length _ ((hI _ _).2 ⟨_, 0, rfl, by simp [cRows], by simp, by simp, by simp, by omega, by simp⟩)
  intro k st hst
  obtain ⟨e, j, rfl, e0, e1, e7, e8, hk, hno⟩ := (hI _ _).1 hst
  by_cases c : j < r.length
  · have hx : r[j]? = some r[j] := List.getElem?_eq_getElem c
    have hpj := hp r[j] (List.getElem_mem c)
    have w1 : IntKind.i64.wrap ((j : Int) + 1) = ((j + 1 : Nat) : Int) := by rw [w64_id (by omega) (by omega)]; omega
    simp only [cRow] at hpj
    simp [e0, e1, e7, e8, cRows, cRow, c, hpj, w1]
    by_cases hj : p r[j] = true
    · simp [hj, idxF_at p r j c hj hno]
    · simp [hj]
      refine ⟨k - 1, by omega, (hI _ _).2 ⟨_, j + 1, rfl, by simp [e0], by simp [e1], by simp [e7], by simp, by omega, ?_⟩⟩
      intro q hq x hx2
      by_cases hqj : q = j
      · subst hqj
        rw [hx] at hx2
        cases hx2
        simpa using hj
      · exact hno q (by omega) x hx2
  · have c' : ¬ (j : Int) < (r.length : Int) := by omega
    simp [e0, e1, e7, e8, c']
    rw [idxF_none p r fun q hq => hno q (by omega)]

theorem contains_row {g : CV} {caps : List CV} {f : FuncId} (hg : g = .fn f caps) {p : Int → Bool} {r : List Int} (hp : ∀ n ∈ r, TV.pu f (cI .i64 n :: caps.map .one) = some (cB (p n))) (hl : r.length < 9223372036854775807) :
    TV.pu 50 [.one (cRow r), .one g] = some (cB (r.any p)) := by
  refine run50 (by simp) ?_
  have h := index_row hg hp hl
  subst hg
  simp [Tryd.f50, h, idxF_ge, cRow] at h ⊢
theorem contains_rows {g : CV} {caps : List CV} {f : FuncId} (hg : g = .fn f caps) {p : List Int → Bool} {r : List (List Int)} (hp : ∀ n ∈ r, TV.pu f (.one (cRow n) :: caps.map .one) = some (cB (p n))) (hl : r.length < 9223372036854775807) :
    TV.pu 48 [.one (cRows r), .one g] = some (cB (r.any p)) := by
  refine run48 (by simp) ?_
  have h := index_rows hg hp hl
  subst hg
  simp [Tryd.f48, h, idxF_ge, cRows] at h ⊢

def cSk (seed : Int) (rows : List (List Int)) : List CV := [.v (.int .u64 seed), cRows rows]
def rowB (rows : List (List Int)) (r : List Int) : Bool := decide (r.length < 1) || decide (256 < r.length) || decide (r.length ≠ (rows.headD []).length) || r.any (fun n => !fitsB n)
theorem signed_row {seed : Int} {rows : List (List Int)} {r : List Int} (hr : rows ≠ []) (hl : r.length < 9223372036854775807) (hl2 : ∀ x ∈ rows, x.length < 9223372036854775807) : TV.pu 49 [.one (cRow r), .one (.cptr (cSk seed rows))] = some (cB (rowB rows r)) := by
  refine run49 (by simp) ?_
  obtain ⟨h, t, rfl⟩ : ∃ h t, rows = h :: t := by cases rows with | nil => exact absurd rfl hr | cons h t => exact ⟨h, t, rfl⟩
  have hc := contains_row (g := .fn 51 []) rfl (p := fun n => !fitsB n) (r := r) (fun n _ => signed_lam n) hl
  simp only [cRow] at hc
  have hB : rowB (h :: t) r = (decide (r.length < 1) || decide (256 < r.length) || decide (r.length ≠ h.length) || r.any (fun n => !fitsB n)) := rfl
  rw [hB]
  by_cases h1 : (r.length : Int) < 1
  · have g1 : r.length < 1 := by omega
    rw [decide_eq_true g1, Bool.true_or, Bool.true_or, Bool.true_or]
    simp [Tryd.f49, cSk, cRows, cRow, h1]
  · have g1 : ¬ r.length < 1 := by omega
    rw [decide_eq_false g1, Bool.false_or]
    by_cases h2 : 256 < (r.length : Int)
    · have g2 : 256 < r.length := by omega
      rw [decide_eq_true g2, Bool.true_or, Bool.true_or]
      simp [Tryd.f49, cSk, cRows, cRow, h1, h2]
    · have g2 : ¬ 256 < r.length := by omega
      rw [decide_eq_false g2, Bool.false_or]
      by_cases h3 : (r.length : Int) = h.length
      · have g3 : ¬ r.length ≠ h.length := by omega
        rw [decide_eq_false g3, Bool.false_or]
        have h3' : ((r.length : Int) != (h.length : Int)) = false := by simp [h3]
        simp [Tryd.f49, cSk, cRows, cRow, h1, h2, h3', hc]
      · have g3 : r.length ≠ h.length := by omega
        rw [decide_eq_true g3, Bool.true_or]
        have h3' : ((r.length : Int) != (h.length : Int)) = true := by simp; omega
        simp [Tryd.f49, cSk, cRows, cRow, h1, h2, h3']

def okB (rows : List (List Int)) : Bool := decide (rows.length ≤ 7) && decide (rows.length % 2 = 1) && !rows.any (rowB rows)
theorem signed_Right {seed : Int} {rows : List (List Int)} (hl : rows.length < 9223372036854775807) (hl2 : ∀ x ∈ rows, x.length < 9223372036854775807) : TV.pu 33 [.agg (cSk seed rows)] = some (cB (okB rows)) := by
  refine run33 (by simp) ?_
  have hc : rows ≠ [] → TV.pu 48 [.one (cRows rows), .one (.fn 49 [.cptr (cSk seed rows)])] = some (cB (rows.any (rowB rows))) := fun hr =>
    contains_rows rfl (fun n hn => signed_row hr (hl2 n hn) hl2) hl
  have e2 : (rows.length : Int).tmod 2 = ((rows.length % 2 : Nat) : Int) := by rw [Int.tmod_eq_emod_of_nonneg (by omega)]; omega
  by_cases h1 : 7 < (rows.length : Int)
  · have g1 : ¬ rows.length ≤ 7 := by omega
    simp only [okB, decide_eq_false g1, Bool.false_and]
    simp [Tryd.f33, cSk, cRows, h1]
  · have g1 : rows.length ≤ 7 := by omega
    simp only [okB, decide_eq_true g1, Bool.true_and]
    by_cases h2 : rows.length % 2 = 1
    · have hr : rows ≠ [] := by rintro rfl; simp at h2
      have hc := hc hr
      simp only [cSk, cRows] at hc
      have e3 : ((rows.length : Int).tmod 2 == 0) = false := by rw [e2, h2]; rfl
      simp [Tryd.f33, cSk, cRows, h1, h2, e3, bin_rem, hc]
    · have e3 : ((rows.length : Int).tmod 2 == 0) = true := by rw [e2, show rows.length % 2 = 0 by omega]; rfl
      simp [Tryd.f33, cSk, cRows, h1, h2, e3, bin_rem]
end Go.Proofs.YtngpmpmhpggpgaaDoorF
end

section
/- A clone of rows, in new memory. -/
set_option maxRecDepth 8192
set_option maxHeartbeats 2000000
namespace Go.Proofs.YtngpmpmhpggpgaaDoorF
open Go Go.Proofs.Vm

theorem slices_Clone {r : List Int} {H : Hp} (h0 : r ≠ []) (hl : r.length ≤ 8796093022208) : TV.S 58 [.one (.c (cRow r))] H = some (.one (.sl (H.length + 1) 0 r.length r.length), H ++ [.clo [] false, .clo (r.map cInt) false]) := by
  refine run58 (by simp) (by simp) ?_
  have ha := vappend_eq (P := Tryd.prog) (H := H ++ [.clo [] false, .clo [] false]) (t := 72) (tx := 72) (id := H.length + 1) (n := 0) (l := []) (xs := r.map cInt) (x := .one (.c (.arr (r.map cInt)))) es72 es72 el3
    (by simp) rfl rfl (by simp) (by simp) (by simp; omega) (by simp; omega)
  obtain ⟨x, t, rfl⟩ : ∃ h t, r = h :: t := by cases r with | nil => exact absurd rfl h0 | cons h t => exact ⟨h, t, rfl⟩
  simp at ha
  simp [Tryd.f58, cRow, vmove, isNil, bin_sln es72, bs_zero es72 el3, ha]
end Go.Proofs.YtngpmpmhpggpgaaDoorF
namespace Go.Proofs.YtngpmpmhpggpgaaDoorF
open Go Go.Proofs.Vm

def cl (rows : List (List Int)) : List Ent := (rows.map fun r => [Ent.clo [] false, .clo (r.map cInt) false]).flatten
theorem cl_len (rows : List (List Int)) : (cl rows).length = 2 * rows.length := by
  induction rows with
  | nil => rfl
  | cons r t ih => simp only [cl, List.map_cons, List.flatten_cons, List.length_append] at ih ⊢; rw [ih]; simp; omega
theorem cl_take (rows : List (List Int)) (i : Nat) (h : i < rows.length) : cl (rows.take (i + 1)) = cl (rows.take i) ++ [Ent.clo [] false, .clo (rows[i].map cInt) false] := by
  rw [List.take_add_one, List.getElem?_eq_getElem h]
  simp only [cl, Option.toList_some, List.map_append, List.flatten_append, List.map_cons, List.map_nil, List.flatten_cons, List.flatten_nil, List.append_nil]
def clRows (b : Nat) (rows : List (List Int)) (i : Nat) : List (List Cell) := rows.mapIdx fun j r => if j < i then [.sl (b + (5 + 2 * j)) 0 r.length r.length] else [.c (.arr [])]
theorem clRows_len (b : Nat) (rows : List (List Int)) (i : Nat) : (clRows b rows i).length = rows.length := by simp [clRows]
theorem clRows_zero (b : Nat) (rows : List (List Int)) : clRows b rows 0 = List.replicate rows.length [.c (.arr [])] := by
  apply List.ext_getElem
  · simp [clRows]
  · intro j h1 h2
    simp [clRows]
theorem clRows_at (b : Nat) (rows : List (List Int)) (i : Nat) (h : i < rows.length) : (clRows b rows i)[i]? = some [.c (.arr [])] := by
  simp [clRows, h]
theorem clRows_set (b : Nat) (rows : List (List Int)) (i : Nat) (h : i < rows.length) : (clRows b rows i).set i [.sl (b + (5 + 2 * i)) 0 rows[i].length rows[i].length] = clRows b rows (i + 1) := by
  apply List.ext_getElem
  · simp [clRows]
  · intro j h1 h2
    rw [List.getElem_set]
    simp only [clRows, List.getElem_mapIdx]
    by_cases hj : i = j
    · subst hj; simp
    · rw [if_neg hj]
      by_cases hj2 : j < i
      · rw [if_pos hj2, if_pos (by omega)]
      · rw [if_neg hj2, if_neg (by omega)]

theorem clRows_modify (b : Nat) (rows : List (List Int)) (i : Nat) (_h : i < rows.length) (x : Cell) : ((clRows b rows i).modify i fun e => wr e 0 [x]) = (clRows b rows i).set i [x] := by
  apply List.ext_getElem
  · simp
  · intro j h1 h2
    rw [List.getElem_modify, List.getElem_set]
    by_cases hj : i = j
    · subst hj
      simp [clRows, wr]
    · rw [if_neg hj, if_neg hj]

/-- The memory behind a clone. -/
def clH (b : Nat) (seed : Int) (rows : List (List Int)) : List Ent :=
  .opn [[.c (.v (.int .u64 seed)), .sl (b + 3) 0 rows.length rows.length]] false :: .opn [[.c (.v (.int .u64 seed)), .sl (b + 3) 0 rows.length rows.length]] false :: .clo [] false :: .opn (clRows b rows rows.length) false :: cl rows

theorem signed_clone {seed : Int} {rows : List (List Int)} {H : Hp} (h0 : rows ≠ []) (hl : rows.length ≤ 1000) (hr : ∀ r ∈ rows, r ≠ [] ∧ r.length ≤ 8796093022208) :
    TV.S 40 [.agg [.c (.v (.int .u64 seed)), .c (cRows rows)]] H = some (.agg [.c (.v (.int .u64 seed)), .sl (H.length + 3) 0 rows.length rows.length], H ++ clH H.length seed rows) := by
  refine run40 (by simp) (by simp) ?_
  have hz : rows.length ≠ 0 := fun h => h0 (List.length_eq_zero_iff.1 h)
  simp [Tryd.f40, cRows, vmove, isNil, vmakeSlice_eq es37 el72, hz, small]
  refine ⟨⟨by omega, by omega⟩, ?_⟩
  obtain ⟨I, hI⟩ : ∃ I : Nat → St → Prop, ∀ k s', I k s' ↔ (∃ e h i, s' = ⟨e, h⟩ ∧ h = H ++ .opn [[.c (.v (.int .u64 seed)), .c (cRows rows)]] false :: .opn [[.c (.v (.int .u64 0)), .sl (H.length + 2) 0 0 0]] false :: .clo [] false :: .opn (clRows H.length rows i) false :: cl (rows.take i) ∧
      e 1 = .one (.ptr ⟨H.length, 0, 0, 1⟩) ∧ e 2 = .one (.ptr ⟨H.length + 1, 0, 0, 1⟩) ∧ e 3 = .one (.sl (H.length + 3) 0 rows.length rows.length) ∧ e 11 = .one (.c (cRows rows)) ∧ e 12 = vI .i64 rows.length ∧ e 13 = vI .i64 (i : Nat) ∧ i + k = rows.length) := ⟨_, fun _ _ => Iff.rfl⟩
  refine wpL_ind I ?_ rows.length _ ((hI _ _).2 ⟨_, _, 0, rfl, by rw [clRows_zero]; simp [cRows, cl], by simp, by simp, by simp, by simp [cRows], by simp, by simp, by omega⟩)
  intro k st hst
  obtain ⟨e, h, i, rfl, rfl, e1, e2, e3, e11, e12, e13, hk⟩ := (hI _ _).1 hst
  by_cases c : i < rows.length
  · have c' : (i : Int) < rows.length := by omega
    have hm := hr rows[i] (List.getElem_mem c)
    have hx : rows[i]? = some rows[i] := List.getElem?_eq_getElem c
    have w1 : IntKind.i64.wrap ((i : Int) + 1) = ((i + 1 : Nat) : Int) := by rw [w64_id (by omega) (by omega)]; omega
    have hc := slices_Clone (r := rows[i]) (H := H ++ .opn [[.c (.v (.int .u64 seed)), .c (cRows rows)]] false :: .opn [[.c (.v (.int .u64 0)), .sl (H.length + 2) 0 0 0]] false :: .clo [] false :: .opn (clRows H.length rows i) false :: cl (rows.take i)) hm.1 hm.2
    simp only [cRow, cRows] at hc
    simp [e1, e2, e3, e11, e12, e13, c, c', w1, cRows, cRow, vmove, hc, vstore, cellsOf?, clRows_len, Ent.wrO]
    refine ⟨by simp [clRows], by simp [clRows], k - 1, by omega, (hI _ _).2 ⟨_, _, i + 1, rfl, ?_, by simp [e1], by simp [e2], by simp [e3], by simp [e11, cRows, cRow], by simp [e12], by simp, by omega⟩⟩
    rw [clRows_modify _ _ _ c, cl_take _ _ c, ← clRows_set _ _ _ c, cl_len, List.length_take, Nat.min_eq_left (by omega)]
    rw [show H.length + (2 * i + 1 + 1 + 1 + 1) + 1 = H.length + (5 + 2 * i) by omega]
    simp [cRows, cRow]
  · have c' : ¬ (i : Int) < rows.length := by omega
    have hi : i = rows.length := by omega
    subst hi
    simp [e1, e2, e3, e11, e12, e13, c', cRows, vmove, vstore, cellsOf?, Ent.wrO, wr, clH]
    simp [qa]
end Go.Proofs.YtngpmpmhpggpgaaDoorF
end

section
/- The places of a key. -/
set_option maxRecDepth 8192
set_option maxHeartbeats 2000000
namespace Go.Proofs.YtngpmpmhpggpgaaDoorF
open Go Go.Proofs.Vm

def scell (seed : Int) (key : ByteArray) (i n : Int) : Int := hcell (hrow seed (2 * i)) key n
def ssign (seed : Int) (key : ByteArray) (i : Int) : Int := hsign (hrow seed (2 * i + 1)) key
theorem signed_place {seed : Int} {rows : List (List Int)} {key : ByteArray} {i : Nat} (h0 : 0 ≤ seed) (h1 : seed < 18446744073709551616) (hs : key.size ≤ 140737488351232) (hi : i < rows.length) (hl : rows.length ≤ 1000) (hr : rows[i].length < 9223372036854775807) :
    TV.pu 41 [.agg (cSk seed rows), cS key, cI .i64 i] = some (.tup [(false, [.v (.int .i64 (scell seed key i rows[i].length))]), (false, [.v (.int .i64 (ssign seed key i))])]) := by
  refine run41 (by simp) ?_
  have w1 : IntKind.i64.wrap (2 * (i : Int)) = 2 * (i : Int) := w64_id (by omega) (by omega)
  have w2 : IntKind.i64.wrap (2 * (i : Int) + 1) = 2 * (i : Int) + 1 := w64_id (by omega) (by omega)
  have r1 := hash_Row (s := seed) (i := 2 * (i : Int)) h0 h1 (by omega) (by omega)
  have r2 := hash_Row (s := seed) (i := 2 * (i : Int) + 1) h0 h1 (by omega) (by omega)
  have b1 := hrow_range seed (2 * (i : Int))
  have b2 := hrow_range seed (2 * (i : Int) + 1)
  have c1 := hash_Cell (seed := hrow seed (2 * (i : Int))) (s := key) (n := (rows[i].length : Int)) b1.1 (by omega) hs (by omega)
  have c2 := hash_Sign (seed := hrow seed (2 * (i : Int) + 1)) (s := key) b2.1 (by omega) hs
  simp [Tryd.f41, cSk, cRows, cRow, w1, w2, r1, r2, hi, c1, c2, scell, ssign]

end Go.Proofs.YtngpmpmhpggpgaaDoorF

namespace Go.Proofs.YtngpmpmhpggpgaaDoorF
open Go Go.Proofs.Vm

theorem cl_get (rows : List (List Int)) (j : Nat) : (cl rows)[2 * j + 1]? = rows[j]?.map fun r => .clo (r.map cInt) false := by
  induction rows generalizing j with
  | nil => simp [cl]
  | cons r t ih =>
    cases j with
    | zero => simp [cl]
    | succ j =>
      have := ih j
      simp only [cl, List.map_cons, List.flatten_cons] at this ⊢
      rw [List.getElem?_append_right (by simp; omega)]
      simp only [List.length_cons, List.length_nil]
      rw [show 2 * (j + 1) + 1 - (0 + 1 + 1) = 2 * j + 1 by omega, this]
      rfl
theorem cl_set (rows : List (List Int)) (j : Nat) (x : List Int) : (cl rows).set (2 * j + 1) (.clo (x.map cInt) false) = cl (rows.set j x) := by
  induction rows generalizing j with
  | nil => simp [cl]
  | cons r t ih =>
    cases j with
    | zero => simp [cl]
    | succ j =>
      have := ih j
      simp only [cl, List.map_cons, List.flatten_cons, List.set_cons_succ] at this ⊢
      rw [List.set_append_right _ _ (by simp; omega)]
      simp only [List.length_cons, List.length_nil]
      rw [show 2 * (j + 1) + 1 - (0 + 1 + 1) = 2 * j + 1 by omega, this]

theorem mapO_all {α β : Type} {f : α → Option β} : ∀ {l : List α} {m : List β}, l.length = m.length → (∀ (j : Nat) x y, l[j]? = some x → m[j]? = some y → f x = some y) → mapO f l = some m
  | [], [], _, _ => rfl
  | [], _ :: _, h, _ => by simp at h
  | _ :: _, [], h, _ => by simp at h
  | x :: l, y :: m, h, g => by
    have h1 := g 0 x y rfl rfl
    have h2 := mapO_all (l := l) (m := m) (by simpa using h) fun j u v hu hv => g (j + 1) u v (by simpa using hu) (by simpa using hv)
    simp [mapO, h1, h2]

theorem fz_rows {h : Hp} {id b : Nat} {rows cur : List (List Int)} (hlen : cur.length = rows.length) (h6 : h[id]? = some (.opn (clRows b rows rows.length) false))
    (hc : ∀ j (hj : j < rows.length) (hj2 : j < cur.length), h[b + (5 + 2 * j)]? = some (.clo (cur[j].map cInt) false) ∧ cur[j].length = rows[j].length) (n : Nat) :
    fzc (n + 2) h (.sl id 0 rows.length rows.length) = some (cRows cur) := by
  have hm : mapO (mapO (fzc (n + 1) h)) (clRows b rows rows.length) = some (cur.map fun r => [cRow r]) := by
    refine mapO_all (by simp [clRows, hlen]) fun j x y hx hy => ?_
    simp only [clRows, List.getElem?_mapIdx, List.getElem?_map] at hx hy
    have hj2 : j < cur.length := by
      rcases Nat.lt_or_ge j cur.length with h | h
      · exact h
      · rw [List.getElem?_eq_none h] at hy; cases hy
    have hj : j < rows.length := by omega
    rw [List.getElem?_eq_getElem hj] at hx
    rw [List.getElem?_eq_getElem hj2] at hy
    simp only [Option.map_some, Option.some.injEq, hj, if_true] at hx hy
    subst hx hy
    obtain ⟨g1, g2⟩ := hc j hj hj2
    simp only [mapO, fzc, g1, List.length_map, g2, if_true, List.drop_zero]
    rw [List.take_of_length_le (by simp [g2])]
    rfl
  have hl : (clRows b rows rows.length).length = rows.length := clRows_len ..
  unfold fzc
  simp only [h6, hl, if_true, List.drop_zero]
  rw [List.take_of_length_le (by omega), hm]
  rfl

def newV (seed : Int) (key : ByteArray) (n : Int) (i : Int) (r : List Int) : Int := r.getD (scell seed key i r.length).toNat 0 + ssign seed key i * n
def updRow (seed : Int) (key : ByteArray) (n : Int) (i : Int) (r : List Int) : List Int := r.set (scell seed key i r.length).toNat (newV seed key n i r)
def updTo (seed : Int) (key : ByteArray) (n : Int) (k : Nat) (rows : List (List Int)) : List (List Int) := rows.mapIdx fun j r => if j < k then updRow seed key n (j : Int) r else r
theorem updTo_zero (seed : Int) (key : ByteArray) (n : Int) (rows : List (List Int)) : updTo seed key n 0 rows = rows := by
  apply List.ext_getElem
  · simp [updTo]
  · intro j h1 h2
    simp [updTo]
theorem updTo_len (seed : Int) (key : ByteArray) (n : Int) (k : Nat) (rows : List (List Int)) : (updTo seed key n k rows).length = rows.length := by simp [updTo]
theorem updTo_at (seed : Int) (key : ByteArray) (n : Int) (k : Nat) (rows : List (List Int)) (h : k < rows.length) : (updTo seed key n k rows)[k]? = some rows[k] := by simp [updTo, h]
theorem updTo_set (seed : Int) (key : ByteArray) (n : Int) (k : Nat) (rows : List (List Int)) (h : k < rows.length) : (updTo seed key n k rows).set k (updRow seed key n (k : Int) rows[k]) = updTo seed key n (k + 1) rows := by
  apply List.ext_getElem
  · simp [updTo]
  · intro j h1 h2
    rw [List.getElem_set]
    simp only [updTo, List.getElem_mapIdx]
    by_cases hj : k = j
    · subst hj; simp
    · rw [if_neg hj]
      by_cases hj2 : j < k
      · rw [if_pos hj2, if_pos (by omega)]
      · rw [if_neg hj2, if_neg (by omega)]
theorem updTo_rowlen (seed : Int) (key : ByteArray) (n : Int) (k : Nat) (rows : List (List Int)) (j : Nat) (h : j < rows.length) (h2 : j < (updTo seed key n k rows).length) : (updTo seed key n k rows)[j].length = rows[j].length := by
  simp only [updTo, List.getElem_mapIdx]
  split
  · simp [updRow]
  · rfl
def addRows (seed : Int) (key : ByteArray) (n : Int) (rows : List (List Int)) : List (List Int) := updTo seed key n rows.length rows
end Go.Proofs.YtngpmpmhpggpgaaDoorF
end

section
/- So many more of a key. -/
set_option maxRecDepth 8192
set_option maxHeartbeats 2000000
namespace Go.Proofs.YtngpmpmhpggpgaaDoorF
open Go Go.Proofs.Vm

structure OkR (rows : List (List Int)) : Prop where
  l7 : rows.length ≤ 7
  odd : rows.length % 2 = 1
  row : ∀ r ∈ rows, 1 ≤ r.length ∧ r.length ≤ 256 ∧ r.length = (rows.headD []).length ∧ ∀ v ∈ r, -1099511627776 ≤ v ∧ v ≤ 1099511627776
theorem fitsB_iff (n : Int) : fitsB n = true ↔ -1099511627776 ≤ n ∧ n ≤ 1099511627776 := by simp [fitsB]
theorem okB_iff (rows : List (List Int)) : okB rows = true ↔ OkR rows := by
  simp only [okB, Bool.and_eq_true, decide_eq_true_eq, Bool.not_eq_true', List.any_eq_false, rowB, Bool.or_eq_true, not_or, List.any_eq_true, not_exists, not_and, ne_eq]
  constructor
  · rintro ⟨⟨a, b⟩, c⟩
    exact ⟨a, b, fun r hr => ⟨by have := (c r hr).1.1.1; omega, by have := (c r hr).1.1.2; omega, by have := (c r hr).1.2; omega, fun v hv => (fitsB_iff v).1 (by have := (c r hr).2 v hv; simpa using this)⟩⟩
  · rintro ⟨a, b, c⟩
    exact ⟨⟨a, b⟩, fun r hr => ⟨⟨⟨by have := (c r hr).1; omega, by have := (c r hr).2.1; omega⟩, by have := (c r hr).2.2.1; omega⟩, fun v hv => by have := (fitsB_iff v).2 ((c r hr).2.2.2 v hv); simpa using this⟩⟩
theorem OkR.ne {rows : List (List Int)} (h : OkR rows) : rows ≠ [] := by rintro rfl; have := h.odd; simp at this

def zH (seed : Int) (key : ByteArray) (n : Int) (rows : List (List Int)) (i : Nat) : List Ent :=
  .clo [] false :: .opn [[.c (.v (.int .u64 seed)), .sl 6 0 rows.length rows.length]] false :: .opn [[.c (.v (.int .u64 seed)), .sl 6 0 rows.length rows.length]] false :: .clo [] false :: .opn (clRows 3 rows rows.length) false :: cl (updTo seed key n i rows)

theorem zH_fz (seed : Int) (key : ByteArray) (n : Int) (rows : List (List Int)) (i : Nat) (X Y : Ent) : fzc 5 (X :: Y :: zH seed key n rows i) (.sl 6 0 rows.length rows.length) = some (cRows (updTo seed key n i rows)) := by
  refine fz_rows (b := 3) (updTo_len ..) (by simp [zH]) (fun j hj hj2 => ⟨?_, updTo_rowlen _ _ _ _ _ _ hj hj2⟩) 3
  show (X :: Y :: _ :: _ :: _ :: _ :: _ :: cl (updTo seed key n i rows))[3 + (5 + 2 * j)]? = _
  rw [show 3 + (5 + 2 * j) = (2 * j + 1) + 7 by omega]
  simp only [List.getElem?_cons_succ]
  rw [cl_get, List.getElem?_eq_getElem hj2]
  rfl

theorem signed_Add_arg {seed : Int} {rows : List (List Int)} {key : ByteArray} {n : Int} (hl : rows.length < 9223372036854775807) (hl2 : ∀ x ∈ rows, x.length < 9223372036854775807) (h : okB rows = false ∨ fitsB n = false) :
    TV.pu 28 [.agg (cSk seed rows), cS key, cI .i64 n] = some (.tup [(true, cSk 0 []), (false, [.v (.int .i64 1)])]) := by
  refine run28 (by simp) ?_
  have hR := signed_Right (seed := seed) hl hl2
  have hf := signed_fits n
  simp only [cSk, cRows] at hR
  by_cases hk : okB rows = true
  · rw [hk] at hR
    have hn : fitsB n = false := by
      rcases h with h | h
      · rw [h] at hk; cases hk
      · exact h
    rw [hn] at hf
    simp [Tryd.f28, cSk, cRows, hR, hf, vstore, cellsOf?, Ent.wrO, wr, vmove, isNil]
    simp [qa]
  · have hk : okB rows = false := by simpa using hk
    rw [hk] at hR
    simp [Tryd.f28, cSk, cRows, hR, vstore, cellsOf?, Ent.wrO, wr, vmove, isNil]
    simp [qa]

theorem signed_Add {seed : Int} {rows : List (List Int)} {key : ByteArray} {n : Int} (h0 : 0 ≤ seed) (h1 : seed < 18446744073709551616) (hs : key.size ≤ 140737488351232) (hok : OkR rows) (hn : fitsB n = true) :
    TV.pu 28 [.agg (cSk seed rows), cS key, cI .i64 n] = some (if ∀ j, ∀ h : j < rows.length, fitsB (newV seed key n (j : Int) rows[j]) = true then .tup [(true, cSk seed (addRows seed key n rows)), (false, [.v (.int .i64 0)])] else .tup [(true, cSk 0 []), (false, [.v (.int .i64 5)])]) := by
  refine run28 (by simp) ?_
  have l7 := hok.l7
  have hR := signed_Right (seed := seed) (rows := rows) (by omega) (fun x hx => by have := (hok.row x hx).2.1; omega)
  rw [(okB_iff rows).2 hok] at hR
  have hf := signed_fits n
  rw [hn] at hf
  have hc := signed_clone (seed := seed) (rows := rows) (H := [.opn [[.c (.v (.int .u64 seed)), .c (cRows rows)]] false, .opn [[.c (.v (.int .u64 0)), .sl 2 0 0 0]] false, .clo [] false]) hok.ne (by omega) (fun r hr => ⟨by have := (hok.row r hr).1; rintro rfl; simp at this, by have := (hok.row r hr).2.1; omega⟩)
  simp only [cSk, cRows] at hR hc
  simp [Tryd.f28, cSk, cRows, hR, hf, hc, vstore, cellsOf?, Ent.wrO, wr, vmove, isNil, clH, clRows_len]
  obtain ⟨I, hI⟩ : ∃ I : Nat → St → Prop, ∀ k s', I k s' ↔ (∃ e h i, s' = ⟨e, h⟩ ∧ h = .opn [[.c (.v (.int .u64 seed)), .sl 6 0 rows.length rows.length]] false :: .opn [[.c (.v (.int .u64 0)), .sl 2 0 0 0]] false :: zH seed key n rows i ∧
      e 1 = vS key ∧ e 2 = vI .i64 n ∧ e 3 = .one (.ptr ⟨0, 0, 0, 1⟩) ∧ e 6 = .one (.ptr ⟨1, 0, 0, 1⟩) ∧ e 24 = .one (.sl 6 0 rows.length rows.length) ∧ e 25 = vI .i64 rows.length ∧ e 26 = vI .i64 (i : Nat) ∧ i + k = rows.length ∧
      ∀ j, j < i → ∀ h : j < rows.length, fitsB (newV seed key n (j : Int) rows[j]) = true) := ⟨_, fun _ _ => Iff.rfl⟩
  refine wpL_ind I ?_ rows.length _ ((hI _ _).2 ⟨_, _, 0, rfl, by simp [zH, updTo_zero], by simp, by simp, by simp, by simp, by simp, by simp, by simp, by omega, by omega⟩)
  intro k st hst
  obtain ⟨e, h, i, rfl, rfl, e1, e2, e3, e6, e24, e25, e26, hk, hall⟩ := (hI _ _).1 hst
  have hz := zH_fz seed key n rows
  have hzl : ∀ i, (zH seed key n rows i) = .clo [] false :: .opn [[.c (.v (.int .u64 seed)), .sl 6 0 rows.length rows.length]] false :: .opn [[.c (.v (.int .u64 seed)), .sl 6 0 rows.length rows.length]] false :: .clo [] false :: .opn (clRows 3 rows rows.length) false :: cl (updTo seed key n i rows) := fun _ => rfl
  by_cases c : i < rows.length
  · have c' : (i : Int) < rows.length := by omega
    have hrw := hok.row rows[i] (List.getElem_mem c)
    have hul : i < (updTo seed key n i rows).length := by rw [updTo_len]; exact c
    have hat : (updTo seed key n i rows)[i] = rows[i] := by
      have := updTo_at seed key n i rows c
      rw [List.getElem?_eq_getElem hul] at this
      exact Option.some.inj this
    have hp := signed_place (seed := seed) (rows := updTo seed key n i rows) (key := key) (i := i) h0 h1 hs hul (by rw [updTo_len]; omega) (by rw [hat]; omega)
    rw [hat] at hp
    have hcell := hcell_range (hrow seed (2 * (i : Int))) key (rows[i].length : Int) (by omega)
    obtain ⟨q, hq⟩ : ∃ q : Nat, scell seed key (i : Int) (rows[i].length : Int) = (q : Int) := ⟨_, (Int.toNat_of_nonneg hcell.1).symm⟩
    have hql : q < rows[i].length := by
      have : (q : Int) < rows[i].length := by rw [← hq]; exact hcell.2
      omega
    have hsg := hsign_or (hrow seed (2 * (i : Int) + 1)) key
    rw [hq] at hp
    have hv := hrw.2.2.2 rows[i][q] (List.getElem_mem hql)
    have hnn := (fitsB_iff n).1 hn
    have hnew : newV seed key n (i : Int) rows[i] = rows[i][q] + ssign seed key (i : Int) * n := by simp [newV, hq, hql]
    have hupd : updRow seed key n (i : Int) rows[i] = rows[i].set q (rows[i][q] + ssign seed key (i : Int) * n) := by rw [updRow, hnew, hq]; simp
    have hsn : -1099511627776 ≤ ssign seed key (i : Int) * n ∧ ssign seed key (i : Int) * n ≤ 1099511627776 := by
      rcases hsg with h | h
      · rw [ssign, h]; omega
      · rw [ssign, h]; omega
    have w1 : IntKind.i64.wrap (ssign seed key (i : Int) * n) = ssign seed key (i : Int) * n := w64_id (by omega) (by omega)
    have w2 : IntKind.i64.wrap (rows[i][q] + ssign seed key (i : Int) * n) = rows[i][q] + ssign seed key (i : Int) * n := w64_id (by omega) (by omega)
    have w3 : IntKind.i64.wrap ((i : Int) + 1) = ((i + 1 : Nat) : Int) := by rw [w64_id (by omega) (by omega)]; omega
    have hg : ∀ X Y : Ent, (X :: Y :: zH seed key n rows i)[3 + (5 + 2 * i)]? = some (.clo (rows[i].map cInt) false) := fun X Y => by
      show (X :: Y :: _ :: _ :: _ :: _ :: _ :: cl (updTo seed key n i rows))[3 + (5 + 2 * i)]? = _
      rw [show 3 + (5 + 2 * i) = (2 * i + 1) + 7 by omega]
      simp only [List.getElem?_cons_succ]
      rw [cl_get, List.getElem?_eq_getElem hul, hat]
      rfl
    have h6 : ∀ X Y : Ent, (X :: Y :: zH seed key n rows i)[6]? = some (.opn (clRows 3 rows rows.length) false) := fun X Y => rfl
    have hra : ∀ h : i < (clRows 3 rows rows.length).length, (clRows 3 rows rows.length)[i]'h = [.sl (3 + (5 + 2 * i)) 0 rows[i].length rows[i].length] := by simp [clRows]
    have hset : ∀ X Y : Ent, (X :: Y :: zH seed key n rows i).set (3 + (5 + 2 * i)) (.clo ((updRow seed key n (i : Int) rows[i]).map cInt) false) = X :: Y :: zH seed key n rows (i + 1) := fun X Y => by
      show (X :: Y :: _ :: _ :: _ :: _ :: _ :: cl (updTo seed key n i rows)).set (3 + (5 + 2 * i)) _ = _
      rw [show 3 + (5 + 2 * i) = (2 * i + 1) + 7 by omega]
      simp only [List.set_cons_succ]
      rw [cl_set, updTo_set _ _ _ _ _ c]
      rfl
    have hwr : Ent.wrC (rows[i].map cInt) q 0 [.v (.int .i64 (rows[i][q] + ssign seed key (i : Int) * n))] = (updRow seed key n (i : Int) rows[i]).map cInt := by
      rw [hupd]
      apply List.ext_getElem
      · simp [Ent.wrC]
      · intro j h1 h2
        simp only [Ent.wrC, List.getElem_modify, List.getElem_map, List.getElem_set]
        by_cases hj : q = j
        · subst hj; simp [wr, cInt]
        · rw [if_neg hj, if_neg hj]
    have hul1 : i < (updTo seed key n (i + 1) rows).length := by rw [updTo_len]; exact c
    have hg1 : ∀ X Y : Ent, (X :: Y :: zH seed key n rows (i + 1))[3 + (5 + 2 * i)]? = some (.clo ((updRow seed key n (i : Int) rows[i]).map cInt) false) := fun X Y => by
      show (X :: Y :: _ :: _ :: _ :: _ :: _ :: cl (updTo seed key n (i + 1) rows))[3 + (5 + 2 * i)]? = _
      rw [show 3 + (5 + 2 * i) = (2 * i + 1) + 7 by omega]
      simp only [List.getElem?_cons_succ]
      rw [cl_get, List.getElem?_eq_getElem hul1]
      simp [updTo]
    have hlu : (updRow seed key n (i : Int) rows[i]).length = rows[i].length := by simp [updRow]
    have hgq : ∀ h : q < (updRow seed key n (i : Int) rows[i]).length, (updRow seed key n (i : Int) rows[i])[q]'h = rows[i][q] + ssign seed key (i : Int) * n := by simp [hupd]
    have hf2 := signed_fits (rows[i][q] + ssign seed key (i : Int) * n)
    simp only [cSk] at hp
    by_cases hfit : fitsB (rows[i][q] + ssign seed key (i : Int) * n) = true
    · rw [hfit] at hf2
      simp [-fzc, fz_v, e1, e2, e3, e6, e24, e25, e26, c, c', vmove, isNil, h6, hra, clRows_len, hz, hp, hql, hg, vstore, cellsOf?, hwr, hset, hg1, hlu, hgq, hasRef, cInt, w1, w2, hf2]
      refine ⟨k - 1, by omega, (hI _ _).2 ⟨_, _, i + 1, rfl, rfl, by simp [e1], by simp [e2], by simp [e3], by simp [e6], by simp [e24], by simp [e25], by simp [w3], by omega, fun j hj h => ?_⟩⟩
      by_cases hji : j = i
      · subst hji
        rw [hnew]; exact hfit
      · exact hall j (by omega) h
    · rw [if_neg fun hx => hfit (by have := hx i c; rw [hnew] at this; exact this)]
      have hfit : fitsB (rows[i][q] + ssign seed key (i : Int) * n) = false := by simpa using hfit
      rw [hfit] at hf2
      simp [-fzc, fz_v, e1, e2, e3, e6, e24, e25, e26, c, c', vmove, isNil, h6, hra, clRows_len, hz, hp, hql, hg, vstore, cellsOf?, hwr, hset, hg1, hlu, hgq, hasRef, cInt, w1, w2, hf2, Ent.wrO, wr]
      simp [fzc, qa]
  · have c' : ¬ (i : Int) < rows.length := by omega
    have hi : i = rows.length := by omega
    subst hi
    rw [if_pos fun j h => hall j h h]
    simp [-fzc, e3, e6, e24, e25, e26, c', vstore, cellsOf?, Ent.wrO, wr, vmove, isNil]
    simp [-fzc, fz_v, qa, hz, addRows]
    rfl
end Go.Proofs.YtngpmpmhpggpgaaDoorF
end

section
/- A sketch of noughts. -/
set_option maxRecDepth 8192
set_option maxHeartbeats 2000000
namespace Go.Proofs.YtngpmpmhpggpgaaDoorF
open Go Go.Proofs.Vm

def newOk (rows cols : Int) : Prop := 1 ≤ rows ∧ rows ≤ 7 ∧ rows % 2 = 1 ∧ 1 ≤ cols ∧ cols ≤ 256
def zRow (cols : Nat) : List (List CV) := List.replicate cols (cInt 0)
theorem signed_New {seed rows cols : Int} (h : newOk rows cols) : TV.pu 24 [cI .u64 seed, cI .i64 rows, cI .i64 cols] = some (.tup [(true, cSk seed (List.replicate rows.toNat (List.replicate cols.toNat 0))), (false, [.v (.int .i64 0)])]) := by
  refine run24 (by simp) ?_
  obtain ⟨a1, a2, a3, a4, a5⟩ := h
  obtain ⟨n, rfl⟩ := Int.eq_ofNat_of_zero_le (show 0 ≤ rows by omega)
  obtain ⟨m, rfl⟩ := Int.eq_ofNat_of_zero_le (show 0 ≤ cols by omega)
  have g1 : ¬ (n : Int) < 1 := by omega
  have g2 : ¬ 7 < (n : Int) := by omega
  have g3 : ((n : Int).tmod 2 == 0) = false := by rw [Int.tmod_eq_emod_of_nonneg (by omega), a3]; rfl
  have g4 : ¬ (m : Int) < 1 := by omega
  have g5 : ¬ 256 < (m : Int) := by omega
  simp [Tryd.f24, g1, g2, g3, g4, g5, bin_rem, vstore, cellsOf?, Ent.wrO, wr, vmove, isNil]
  obtain ⟨I, hI⟩ : ∃ I : Nat → St → Prop, ∀ k s', I k s' ↔ (∃ e h i L, s' = ⟨e, h⟩ ∧ h = .opn [[.c (.v (.int .u64 0)), .sl 1 0 0 0]] false :: .clo [] false :: .clo (List.replicate i [.arr (zRow m)]) false :: .opn [[.c (.v (.int .u64 seed)), .sl 2 0 i i]] false :: L ∧
      e 0 = vI .u64 seed ∧ e 2 = vI .i64 (m : Nat) ∧ e 6 = .one (.ptr ⟨0, 0, 0, 1⟩) ∧ e 8 = .one (.ptr ⟨3, 0, 0, 1⟩) ∧ e 31 = vI .i64 (n : Nat) ∧ e 32 = vI .i64 (i : Nat) ∧ i + k = n) := ⟨_, fun _ _ => Iff.rfl⟩
  refine wpL_ind I ?_ n _ ((hI _ _).2 ⟨_, _, 0, _, rfl, rfl, by simp, by simp, by simp, by simp, by simp, by simp, by omega⟩)
  intro k st hst
  obtain ⟨e, h, i, L, rfl, rfl, e0, e2, e6, e8, e31, e32, hk⟩ := (hI _ _).1 hst
  by_cases c : i < n
  · have c' : (i : Int) < n := by omega
    have w3 : IntKind.i64.wrap ((i : Int) + 1) = ((i + 1 : Nat) : Int) := by rw [w64_id (by omega) (by omega)]; omega
    have ha : ∀ (A B C D : Ent), vappend Tryd.prog (A :: B :: .clo (List.replicate i [.arr (zRow m)]) false :: D :: (L ++ [C, .clo [[.arr (zRow m)]] false])) 37 37 (.one (.sl 2 0 i i)) (.one (.sl (L.length + 1 + 1 + 1 + 1 + 1) 0 1 1)) =
        some (.one (.sl 2 0 (i + 1) (i + 1)), A :: B :: .clo (List.replicate (i + 1) [.arr (zRow m)]) false :: D :: (L ++ [C, .clo [[.arr (zRow m)]] false])) := by
      intro A B C D
      have := vappend_eq (P := Tryd.prog) (H := A :: B :: .clo (List.replicate i [.arr (zRow m)]) false :: D :: (L ++ [C, .clo [[.arr (zRow m)]] false])) (t := 37) (tx := 37) (id := 2) (n := i) (l := List.replicate i [.arr (zRow m)]) (xs := [[.arr (zRow m)]]) (x := .one (.sl (L.length + 1 + 1 + 1 + 1 + 1) 0 1 1)) es37 es37 el72
        (by simp) (by simp [elemsOf]) (by simp) (by intro x hx; rw [List.eq_of_mem_replicate hx]; rfl) (by simp) (by simp; omega) (by simp; omega)
      simp only [List.length_cons, List.length_nil, ← List.replicate_succ'] at this
      exact this
    have hz : List.replicate m [CV.v (.int .i64 0)] = zRow m := rfl
    have hzl : (zRow m).length = m := by simp [zRow]
    have hzt : List.take m (zRow m) = zRow m := List.take_of_length_le (by omega)
    have b1 : 8 * m ≤ 140737488355328 := by omega
    have b2 : (m : Int) ≤ 4611686018427387904 := by omega
    simp [e2, e6, e8, e31, e32, c', w3, b1, b2, hzl, hzt, vstore, Ent.wrO, wr, vmakeSlice_eq es72 el3, vbuildSlice_eq es37 el72, small, vmove, isNil, cellsOf?, fzParts, setAll, rchParts, rch, frzAll, Ent.frz, hz, ha]
    exact ⟨k - 1, by omega, (hI _ _).2 ⟨_, _, i + 1, _, rfl, rfl, by simp [e0], by simp [e2], by simp [e6], by simp [e8], by simp [e31], by simp, by omega⟩⟩
  · have c' : ¬ (i : Int) < n := by omega
    have hi : i = n := by omega
    subst hi
    simp [e2, e6, e8, e31, e32, c', vstore, cellsOf?, Ent.wrO, wr, vmove, isNil]
    simp [qa, cSk, cRows, cRow, zRow]

theorem signed_New_arg {seed rows cols : Int} (h : ¬ newOk rows cols) : TV.pu 24 [cI .u64 seed, cI .i64 rows, cI .i64 cols] = some (.tup [(true, cSk 0 []), (false, [.v (.int .i64 1)])]) := by
  refine run24 (by simp) ?_
  by_cases g1 : rows < 1
  · simp [Tryd.f24, g1, vstore, cellsOf?, Ent.wrO, wr, vmove, isNil]
    simp [qa, cSk, cRows]
  by_cases g2 : 7 < rows
  · simp [Tryd.f24, g1, g2, vstore, cellsOf?, Ent.wrO, wr, vmove, isNil]
    simp [qa, cSk, cRows]
  by_cases g3 : (rows.tmod 2 == 0) = true
  · simp [Tryd.f24, g1, g2, g3, bin_rem, vstore, cellsOf?, Ent.wrO, wr, vmove, isNil]
    simp [qa, cSk, cRows]
  have g3 : (rows.tmod 2 == 0) = false := by simpa using g3
  by_cases g4 : cols < 1
  · simp [Tryd.f24, g1, g2, g3, g4, bin_rem, vstore, cellsOf?, Ent.wrO, wr, vmove, isNil]
    simp [qa, cSk, cRows]
  by_cases g5 : 256 < cols
  · simp [Tryd.f24, g1, g2, g3, g4, g5, bin_rem, vstore, cellsOf?, Ent.wrO, wr, vmove, isNil]
    simp [qa, cSk, cRows]
  · refine absurd ⟨by omega, by omega, ?_, by omega, by omega⟩ h
    rw [Int.tmod_eq_emod_of_nonneg (by omega)] at g3
    have : rows % 2 ≠ 0 := by simpa using g3
    omega
end Go.Proofs.YtngpmpmhpggpgaaDoorF
end

section
/- The middle of what is told. -/
set_option maxRecDepth 8192
set_option maxHeartbeats 2000000
namespace Go.Proofs.YtngpmpmhpggpgaaDoorF
open Go Go.Proofs.Vm

def getL (seed : Int) (key : ByteArray) (rows : List (List Int)) : List Int := rows.mapIdx fun i r => ssign seed key (i : Int) * r.getD (scell seed key (i : Int) r.length).toNat 0
def srt (l : List Int) : List Int := l.mergeSort fun x y => decide (x ≤ y)
def med (l : List Int) : Int := (srt l).getD (l.length / 2) 0

theorem sort_run {H : Hp} {id : Nat} {l : List Int} (h : H[id]? = some (.clo (l.map cInt) false)) (hlt : l.length < 4611686018427387904) : TV.S 45 [.one (.sl id 0 l.length l.length)] H = some (und, H.set id (.clo ((srt l).map cInt) false)) := by
  refine TT_baseS ?_
  simp [cfg, orTab, tzTab, sortTab, sortRun, h, mapO_intOf, srt, hlt]

theorem getL_len (seed : Int) (key : ByteArray) (rows : List (List Int)) : (getL seed key rows).length = rows.length := by simp [getL]

theorem signed_Get {seed : Int} {rows : List (List Int)} {key : ByteArray} (h0 : 0 ≤ seed) (h1 : seed < 18446744073709551616) (hs : key.size ≤ 140737488351232) (hok : OkR rows) :
    TV.pu 31 [.agg (cSk seed rows), cS key] = some (cI .i64 (med (getL seed key rows))) := by
  refine run31 (by simp) ?_
  have l7 := hok.l7
  have hR := signed_Right (seed := seed) (rows := rows) (by omega) (fun x hx => by have := (hok.row x hx).2.1; omega)
  rw [(okB_iff rows).2 hok] at hR
  simp only [cSk, cRows] at hR
  simp [Tryd.f31, cSk, cRows, hR, vmove, isNil]
  obtain ⟨I, hI⟩ : ∃ I : Nat → St → Prop, ∀ k s', I k s' ↔ (∃ e h i L, s' = ⟨e, h⟩ ∧ h = .opn [[.c (.v (.int .u64 seed)), .c (cRows rows)]] false :: .clo (((getL seed key rows).take i).map cInt) false :: L ∧
      e 1 = vS key ∧ e 2 = .one (.ptr ⟨0, 0, 0, 1⟩) ∧ e 5 = .one (.sl 1 0 i i) ∧ e 14 = .one (.c (cRows rows)) ∧ e 15 = vI .i64 rows.length ∧ e 16 = vI .i64 (i : Nat) ∧ i + k = rows.length) := ⟨_, fun _ _ => Iff.rfl⟩
  refine wpL_ind I ?_ rows.length _ ((hI _ _).2 ⟨_, _, 0, _, rfl, rfl, by simp, by simp, by simp, by simp [cRows], by simp, by simp, by omega⟩)
  intro k st hst
  obtain ⟨e, h, i, L, rfl, rfl, e1, e2, e5, e14, e15, e16, hk⟩ := (hI _ _).1 hst
  by_cases c : i < rows.length
  · have c' : (i : Int) < rows.length := by omega
    have hrw := hok.row rows[i] (List.getElem_mem c)
    have hp := signed_place (seed := seed) (rows := rows) (key := key) (i := i) h0 h1 hs c (by omega) (by omega)
    have hcell := hcell_range (hrow seed (2 * (i : Int))) key (rows[i].length : Int) (by omega)
    obtain ⟨q, hq⟩ : ∃ q : Nat, scell seed key (i : Int) (rows[i].length : Int) = (q : Int) := ⟨_, (Int.toNat_of_nonneg hcell.1).symm⟩
    have hql : q < rows[i].length := by
      have : (q : Int) < rows[i].length := by rw [← hq]; exact hcell.2
      omega
    have hsg := hsign_or (hrow seed (2 * (i : Int) + 1)) key
    rw [hq] at hp
    have hv := hrw.2.2.2 rows[i][q] (List.getElem_mem hql)
    have hsn : -1099511627776 ≤ ssign seed key (i : Int) * rows[i][q] ∧ ssign seed key (i : Int) * rows[i][q] ≤ 1099511627776 := by
      rcases hsg with h | h
      · rw [ssign, h]; omega
      · rw [ssign, h]; omega
    have w1 : IntKind.i64.wrap (ssign seed key (i : Int) * rows[i][q]) = ssign seed key (i : Int) * rows[i][q] := w64_id (by omega) (by omega)
    have w3 : IntKind.i64.wrap ((i : Int) + 1) = ((i + 1 : Nat) : Int) := by rw [w64_id (by omega) (by omega)]; omega
    have hgl : (getL seed key rows).take (i + 1) = (getL seed key rows).take i ++ [ssign seed key (i : Int) * rows[i][q]] := by
      rw [List.take_add_one]
      simp [getL, c, hq, hql]
    have ha : vappend Tryd.prog (.opn [[.c (.v (.int .u64 seed)), .c (cRows rows)]] false :: .clo (((getL seed key rows).take i).map cInt) false :: (L ++ [.clo [cInt (ssign seed key (i : Int) * rows[i][q])] false])) 72 72 (.one (.sl 1 0 i i)) (.one (.sl (L.length + 1 + 1) 0 1 1)) =
        some (.one (.sl 1 0 (i + 1) (i + 1)), .opn [[.c (.v (.int .u64 seed)), .c (cRows rows)]] false :: .clo (((getL seed key rows).take (i + 1)).map cInt) false :: (L ++ [.clo [cInt (ssign seed key (i : Int) * rows[i][q])] false])) := by
      have := vappend_eq (P := Tryd.prog) (H := .opn [[.c (.v (.int .u64 seed)), .c (cRows rows)]] false :: .clo (((getL seed key rows).take i).map cInt) false :: (L ++ [.clo [cInt (ssign seed key (i : Int) * rows[i][q])] false])) (t := 72) (tx := 72) (id := 1) (n := i) (l := ((getL seed key rows).take i).map cInt) (xs := [cInt (ssign seed key (i : Int) * rows[i][q])]) (x := .one (.sl (L.length + 1 + 1) 0 1 1)) es72 es72 el3
        (by simp) (by simp [elemsOf]) (by simp [getL_len]; omega) (by intro x hx; obtain ⟨y, _, rfl⟩ := List.mem_map.1 hx; rfl) (by simp) (by simp; omega) (by simp; omega)
      rw [this, hgl]
      simp
    simp only [cSk, cRows, cRow] at hp
    simp only [cRows, cRow, cInt, List.map_take] at ha
    simp [e1, e2, e5, e14, e15, e16, c, c', cRows, cRow, w1, w3, hp, hql, cInt, vmove, isNil, vbuildSlice_eq es72 el3, cellsOf?, fzParts, setAll, rchParts, rch, ha]
    exact ⟨k - 1, by omega, (hI _ _).2 ⟨_, _, i + 1, _, rfl, by simp [cRows, cRow, List.map_take]; rfl, by simp [e1], by simp [e2], by simp, by simp [e14, cRows, cRow], by simp [e15], by simp, by omega⟩⟩
  · have c' : ¬ (i : Int) < rows.length := by omega
    have hi : i = rows.length := by omega
    subst hi
    have ht : (getL seed key rows).take rows.length = getL seed key rows := List.take_of_length_le (by rw [getL_len]; omega)
    have hso := sort_run (H := .opn [[.c (.v (.int .u64 seed)), .c (cRows rows)]] false :: .clo ((getL seed key rows).map cInt) false :: L) (id := 1) (l := getL seed key rows) (by simp) (by rw [getL_len]; omega)
    rw [getL_len] at hso
    simp only [cRows] at hso
    obtain ⟨p, hpe⟩ : ∃ p, p = rows.length / 2 := ⟨_, rfl⟩
    have wq : IntKind.i64.wrap ((rows.length : Int) / 2) = (p : Int) := by rw [w64_id (by omega) (by omega)]; omega
    have hsl : (srt (getL seed key rows)).length = rows.length := by simp [srt, getL_len]
    have hlt : p < rows.length := by have := hok.odd; omega
    simp [e5, e14, e15, e16, c, c', cRows, cInt, ht, hso, wq, hsl, hlt, bin_quo, vmove, isNil]
    simp [med, getL_len, ← hpe, hsl, hlt]
end Go.Proofs.YtngpmpmhpggpgaaDoorF
end

section
/- The document's sketches: right, equal. -/
set_option maxRecDepth 8192
set_option maxHeartbeats 2000000
namespace Go.Proofs.YtngpmpmhpggpgaaDoorF
open Go Go.Proofs.Vm

end Go.Proofs.YtngpmpmhpggpgaaDoorF
end

section
/- Rows to which is added: plain facts. -/
set_option maxRecDepth 8192
set_option maxHeartbeats 2000000
namespace Go.Proofs.YtngpmpmhpggpgaaDoorF
open Go Go.Proofs.Vm

/-- Rows of numbers within a bound. -/
def Within (B : Int) (rows : List (List Int)) : Prop := ∀ r ∈ rows, ∀ v ∈ r, -B ≤ v ∧ v ≤ B
theorem ssign_or (seed : Int) (key : ByteArray) (i : Int) : ssign seed key i = 1 ∨ ssign seed key i = -1 := hsign_or _ _
theorem newV_within {B N : Int} {rows : List (List Int)} (hw : Within B rows) (hok : OkR rows) {seed : Int} {key : ByteArray} {n : Int} (hn : -N ≤ n ∧ n ≤ N) (i : Nat) (h : i < rows.length) :
    -(B + N) ≤ newV seed key n (i : Int) rows[i] ∧ newV seed key n (i : Int) rows[i] ≤ B + N := by
  have hcell := hcell_range (hrow seed (2 * (i : Int))) key (rows[i].length : Int) (by have := (hok.row _ (List.getElem_mem h)).1; omega)
  have hql : (scell seed key (i : Int) rows[i].length).toNat < rows[i].length := by
    have h1 : scell seed key (i : Int) rows[i].length < rows[i].length := hcell.2
    have h2 : 0 ≤ scell seed key (i : Int) rows[i].length := hcell.1
    omega
  have hv := hw _ (List.getElem_mem h) _ (List.getElem_mem hql)
  unfold newV
  rw [List.getD_eq_getElem?_getD, List.getElem?_eq_getElem hql]
  simp only [Option.getD_some]
  rcases ssign_or seed key (i : Int) with h | h <;> rw [h] <;> omega

theorem addRows_at {seed : Int} {key : ByteArray} {n : Int} {rows : List (List Int)} (i : Nat) (h : i < rows.length) (h2 : i < (addRows seed key n rows).length) : (addRows seed key n rows)[i] = updRow seed key n (i : Int) rows[i] := by
  simp [addRows, updTo, h]
theorem addRows_len {seed : Int} {key : ByteArray} {n : Int} {rows : List (List Int)} : (addRows seed key n rows).length = rows.length := updTo_len ..
theorem addRows_within {B N : Int} {rows : List (List Int)} (hw : Within B rows) (hok : OkR rows) {seed : Int} {key : ByteArray} {n : Int} (hn : -N ≤ n ∧ n ≤ N) : Within (B + N) (addRows seed key n rows) := by
  intro r hr v hv
  obtain ⟨i, hi, rfl⟩ := List.getElem_of_mem hr
  have hi' : i < rows.length := by rw [addRows_len] at hi; exact hi
  rw [addRows_at i hi' hi] at hv
  unfold updRow at hv
  rcases List.mem_or_eq_of_mem_set hv with h | h
  · have := hw _ (List.getElem_mem hi') _ h
    omega
  · subst h
    exact newV_within hw hok hn i hi'
theorem addRows_ok {B N : Int} {rows : List (List Int)} (hw : Within B rows) (hok : OkR rows) {seed : Int} {key : ByteArray} {n : Int} (hn : -N ≤ n ∧ n ≤ N) (hB : B + N ≤ 1099511627776) : OkR (addRows seed key n rows) where
  l7 := by rw [addRows_len]; exact hok.l7
  odd := by rw [addRows_len]; exact hok.odd
  row r hr := by
    have hwi := addRows_within hw hok (seed := seed) (key := key) hn r hr
    obtain ⟨i, hi, rfl⟩ := List.getElem_of_mem hr
    have hi' : i < rows.length := by rw [addRows_len] at hi; exact hi
    have hlen : ∀ j (h : j < rows.length) (h2 : j < (addRows seed key n rows).length), (addRows seed key n rows)[j].length = rows[j].length := fun j h h2 => by rw [addRows_at j h h2]; simp [updRow]
    have h := hok.row _ (List.getElem_mem hi')
    have h0 : 0 < rows.length := by omega
    have hd : ((addRows seed key n rows).headD []).length = (rows.headD []).length := by
      have e1 : ∀ l : List (List Int), (h : 0 < l.length) → l.headD [] = l[0] := fun l h => by cases l with | nil => simp at h | cons a t => rfl
      rw [e1 _ (by rw [addRows_len]; exact h0), e1 _ h0]
      exact hlen 0 h0 _
    rw [hlen i hi' hi, hd]
    exact ⟨h.1, h.2.1, h.2.2.1, fun v hv => by have := hwi v hv; omega⟩
theorem addRows_fits {B N : Int} {rows : List (List Int)} (hw : Within B rows) (hok : OkR rows) {seed : Int} {key : ByteArray} {n : Int} (hn : -N ≤ n ∧ n ≤ N) (hB : B + N ≤ 1099511627776) : ∀ j, ∀ h : j < rows.length, fitsB (newV seed key n (j : Int) rows[j]) = true := fun j h => by
  have := newV_within hw hok (seed := seed) (key := key) hn j h
  rw [fitsB_iff]; omega
theorem new_ok {rows cols : Int} (h : newOk rows cols) : OkR (List.replicate rows.toNat (List.replicate cols.toNat (0 : Int))) where
  l7 := by have := h.2.1; simp; omega
  odd := by have := h.2.2.1; have := h.1; simp; omega
  row r hr := by
    have := List.eq_of_mem_replicate hr
    subst this
    have h1 := h.1; have h2 := h.2.2.2.1; have h3 := h.2.2.2.2
    have hd : (List.replicate rows.toNat (List.replicate cols.toNat (0 : Int))).headD [] = List.replicate cols.toNat 0 := by
      obtain ⟨k, hk⟩ : ∃ k, rows.toNat = k + 1 := ⟨rows.toNat - 1, by omega⟩
      rw [hk, List.replicate_succ]; rfl
    rw [hd]
    refine ⟨by simp; omega, by simp; omega, rfl, fun v hv => ?_⟩
    rw [List.eq_of_mem_replicate hv]; omega
theorem new_within {rows cols : Int} : Within 0 (List.replicate rows.toNat (List.replicate cols.toNat (0 : Int))) := by
  intro r hr v hv
  rw [List.eq_of_mem_replicate hr] at hv
  rw [List.eq_of_mem_replicate hv]; omega
theorem med_mem {l : List Int} (h : l ≠ []) : med l ∈ l := by
  have hl : l.length / 2 < (srt l).length := by
    have : 0 < l.length := List.length_pos_iff.2 h
    simp [srt]; omega
  unfold med
  rw [List.getD_eq_getElem?_getD, List.getElem?_eq_getElem hl]
  exact List.mem_mergeSort.1 (List.getElem_mem hl)
end Go.Proofs.YtngpmpmhpggpgaaDoorF
end

section
/- The document's numbers of the field, sums and cells of keys. -/
namespace Go.Proofs.YtngpmpmhpggpgaaDoorF
open Go Go.Proofs.Vm

theorem sbin_add {P : Program} {H : Hp} {t : TypeId} {x y : Operand} {u v : ByteArray} (h : u.size + v.size ≤ 9223372036854775807) : vbin P H .add t x y (vS u) (vS v) = qa (vS (u ++ v)) := by
  have h' : ¬ 9223372036854775807 < (u.size : Int) + (v.size : Int) := by omega
  simp [vbin, vbin0, neSl, isNils, isPtr, isNilp, AV.sc, Cell.sc, eqGuard, binOp, Op.stringOp, ofPv, one?, Value.oneCell', h']
theorem byt_app (a b : ByteArray) (i : Int) (h0 : 0 ≤ i) : byt (a ++ b) i = if i < a.size then byt a i else byt b (i - a.size) := by
  obtain ⟨n, rfl⟩ := Int.eq_ofNat_of_zero_le h0
  by_cases h : (n : Int) < a.size
  · have h' : n < a.size := by omega
    have e : (a ++ b)[(n : Int).toNat]? = a[(n : Int).toNat]? := by
      simp only [Int.toNat_natCast]
      rw [getElem?_pos (a ++ b) n (by simp; omega), getElem?_pos a n h']
      congr 1
      exact ByteArray.getElem_append_left h'
    rw [if_pos h]
    unfold byt
    rw [e]
  · have h' : a.size ≤ n := by omega
    have e : (a ++ b)[(n : Int).toNat]? = b[((n : Int) - a.size).toNat]? := by
      rw [show ((n : Int) - a.size).toNat = n - a.size by omega, Int.toNat_natCast]
      by_cases hb : n < a.size + b.size
      · rw [getElem?_pos (a ++ b) n (by simp; omega), getElem?_pos b (n - a.size) (by omega)]
        congr 1
        exact ByteArray.getElem_append_right h'
      · rw [getElem?_neg (a ++ b) n (by simp; omega), getElem?_neg b (n - a.size) (by omega)]
    rw [if_neg h]
    unfold byt
    rw [e]

def cU (n : Int) : List CV := [.v (.int .u64 n)]
def hwords (s : ByteArray) : List Int := (List.range (nwords s)).map fun (q : Nat) => hword s (4 * (q : Int))
theorem hwords_len (s : ByteArray) : (hwords s).length = nwords s := by simp [hwords]

end Go.Proofs.YtngpmpmhpggpgaaDoorF
end

section
/- A key's level, by the program and by the document. -/
set_option maxRecDepth 8192
set_option maxHeartbeats 1000000
namespace Go.Proofs.YtngpmpmhpggpgaaDoorF
open Go Go.Proofs.Vm

/-- How many of the lowest bits are nought, at most so many. -/
def tzU : Nat → Int → Nat
  | 0, _ => 0
  | m + 1, s => if s % 2 = 0 then tzU m (s / 2) + 1 else 0
theorem tzU_le : ∀ (m : Nat) (s : Int), tzU m s ≤ m
  | 0, _ => Nat.le_refl _
  | m + 1, s => by
    unfold tzU
    split
    · have := tzU_le m (s / 2); omega
    · omega
theorem tzU_zero : ∀ m : Nat, tzU m 0 = m
  | 0 => rfl
  | m + 1 => by unfold tzU; rw [if_pos (by decide)]; show tzU m 0 + 1 = m + 1; rw [tzU_zero m]
theorem tzU_ctz : ∀ (m f x : Nat), 0 < x → x < 2 ^ f → min (Lib.ctzFrom f x) m = tzU m (x : Int)
  | 0, f, x, _, _ => by simp [tzU]
  | m + 1, 0, x, h0, h => by simp at h; omega
  | m + 1, f + 1, x, h0, h => by
    unfold tzU Lib.ctzFrom
    by_cases hx : x % 2 = 1
    · rw [if_pos hx, if_neg (by omega)]; simp
    · rw [if_neg hx, if_pos (by omega)]
      have := tzU_ctz m f (x / 2) (by omega) (by rw [Nat.pow_succ] at h; omega)
      have e : ((x : Int) / 2) = ((x / 2 : Nat) : Int) := by omega
      rw [e, ← this]
      omega
def hlev (seed : Int) (s : ByteArray) (most : Int) : Int := (tzU most.toNat (hsum seed s) : Nat)
theorem hlev_range (seed : Int) (s : ByteArray) (most : Int) : 0 ≤ hlev seed s most ∧ hlev seed s most ≤ max most 0 := by
  have := tzU_le most.toNat (hsum seed s)
  unfold hlev; omega
theorem tz64 {x : Int} (h0 : 0 ≤ x) (h1 : x < 18446744073709551616) : TV.pu 57 [cI .u64 x] = some (cI .i64 (Lib.ctz 64 x.toNat)) := by
  refine TT_base ?_
  show (match (if (57 : FuncId) = 57 then tzRun [cI .u64 x] else none) with | some r => some r | none => _) = _
  rw [if_pos rfl]
  simp only [tzRun]
  rw [if_pos ⟨h0, h1⟩]
theorem hash_Level {seed most : Int} {s : ByteArray} (h0 : 0 ≤ seed) (h1 : seed < 18446744073709551616) (hs : s.size ≤ 140737488351232) (hm0 : -9223372036854775808 ≤ most) (hm1 : most < 9223372036854775808) : TV.pu 38 [cI .u64 seed, cS s, cI .i64 most] = some (cI .i64 (hlev seed s most)) := by
  refine run38 (by simp) ?_
  have hS := hash_Sum (seed := seed) (s := s) h0 h1 hs
  have hr := hsum_range seed s
  obtain ⟨x, hx⟩ : ∃ x, hsum seed s = x := ⟨_, rfl⟩
  unfold hlev
  rw [hx] at hS hr ⊢
  by_cases hz : x = 0
  · subst hz
    have e : (if most < 0 then 0 else most) = ((tzU most.toNat 0 : Nat) : Int) := by rw [tzU_zero]; split <;> omega
    simp -implicitDefEqProofs [Tryd.f38, hS, e]
  · obtain ⟨n, rfl⟩ := Int.eq_ofNat_of_zero_le hr.1
    have ht := tz64 (x := (n : Int)) hr.1 (by omega)
    have hn0 : n ≠ 0 := by omega
    have hc : Lib.ctz 64 n = Lib.ctzFrom 64 n := by unfold Lib.ctz; rw [if_neg hn0]
    have hmin := tzU_ctz most.toNat 64 n (by omega) (by omega)
    rw [Int.toNat_natCast, hc] at ht
    obtain ⟨c, hcc⟩ : ∃ c, Lib.ctzFrom 64 n = c := ⟨_, rfl⟩
    rw [hcc] at ht hmin
    have e : (if (if most < (c : Int) then most else (c : Int)) < 0 then 0 else (if most < (c : Int) then most else (c : Int))) = ((tzU most.toNat (n : Int) : Nat) : Int) := by rw [← hmin]; split <;> split <;> omega
    simp -implicitDefEqProofs [Tryd.f38, hS, hn0, ht, e]
end Go.Proofs.YtngpmpmhpggpgaaDoorF
end

section
/- Logarithms by squaring, and what a number counts: plain facts. -/
set_option maxRecDepth 8192
set_option maxHeartbeats 2000000
namespace Go.Proofs.YtngpmpmhpggpgaaDoorF
open Go Go.Proofs.Vm

/-- One bit more of a logarithm. -/
def lgStep (s : Nat × Nat) : Nat × Nat := if 2147483648 ≤ s.2 * s.2 / 1073741824 then (2 * s.1 + 1, s.2 * s.2 / 1073741824 / 2) else (2 * s.1, s.2 * s.2 / 1073741824)
def lgIt : Nat → Nat × Nat → Nat × Nat
  | 0, s => s
  | n + 1, s => lgIt n (lgStep s)
def lgX (n k : Nat) : Nat := if 30 < k then n / 2 ^ (k - 30) else n * 2 ^ (30 - k)
def lgN (n : Nat) : Nat := (lgIt 16 (Nat.log2 n, lgX n (Nat.log2 n))).1
/-- What is squared lies between one and two. -/
def lgOk (s : Nat × Nat) : Prop := 1073741824 ≤ s.2 ∧ s.2 < 2147483648
theorem lgStep_ok {s : Nat × Nat} (h : lgOk s) : lgOk (lgStep s) := by
  obtain ⟨h1, h2⟩ := h
  have a := Nat.mul_le_mul h1 h1
  have b := Nat.mul_le_mul (show s.2 ≤ 2147483647 by omega) (show s.2 ≤ 2147483647 by omega)
  unfold lgStep lgOk
  generalize s.2 * s.2 = q at *
  split <;> simp only <;> omega
theorem lgStep_sq {s : Nat × Nat} (h : lgOk s) : s.2 * s.2 < 4611686018427387904 := by
  have b := Nat.mul_le_mul (show s.2 ≤ 2147483647 by have := h.2; omega) (show s.2 ≤ 2147483647 by have := h.2; omega)
  omega
theorem lgIt_ok : ∀ (n : Nat) {s : Nat × Nat}, lgOk s → lgOk (lgIt n s)
  | 0, _, h => h
  | n + 1, _, h => lgIt_ok n (lgStep_ok h)
theorem lgIt_snoc : ∀ (n : Nat) (s : Nat × Nat), lgIt (n + 1) s = lgStep (lgIt n s)
  | 0, _ => rfl
  | n + 1, s => lgIt_snoc n (lgStep s)
theorem lgIt_lt : ∀ (n : Nat) (s : Nat × Nat), (lgIt n s).1 < (s.1 + 1) * 2 ^ n
  | 0, s => by simp [lgIt]
  | n + 1, s => by
    have h := lgIt_lt n (lgStep s)
    have e : (lgStep s).1 + 1 ≤ 2 * (s.1 + 1) := by unfold lgStep; split <;> simp only <;> omega
    have := Nat.mul_le_mul_right (2 ^ n) e
    rw [Nat.pow_succ]
    show (lgIt n (lgStep s)).1 < _
    have e2 : (s.1 + 1) * (2 ^ n * 2) = 2 * (s.1 + 1) * 2 ^ n := by rw [Nat.mul_comm (2 ^ n) 2, ← Nat.mul_assoc, Nat.mul_comm (s.1 + 1) 2]
    omega
theorem lgX_ok {n : Nat} (h0 : n ≠ 0) : lgOk (Nat.log2 n, lgX n (Nat.log2 n)) := by
  have h1 := Nat.log2_self_le h0
  have h2 := (Nat.log2_lt h0).1 (Nat.lt_succ_self (Nat.log2 n))
  generalize Nat.log2 n = k at *
  unfold lgX lgOk
  simp only
  split
  · rename_i hk
    have e : 2 ^ k = 2 ^ 30 * 2 ^ (k - 30) := by rw [← Nat.pow_add]; congr 1; omega
    have e2 : 2 ^ (k + 1) = 2 ^ 31 * 2 ^ (k - 30) := by rw [← Nat.pow_add]; congr 1; omega
    have hp : 0 < 2 ^ (k - 30) := Nat.pow_pos (by decide)
    refine ⟨(Nat.le_div_iff_mul_le hp).2 ?_, (Nat.div_lt_iff_lt_mul hp).2 ?_⟩
    · rw [e] at h1; exact h1
    · rw [Nat.succ_eq_add_one, e2] at h2; exact h2
  · rename_i hk
    have e : 2 ^ 30 = 2 ^ k * 2 ^ (30 - k) := by rw [← Nat.pow_add]; congr 1; omega
    have e2 : 2 ^ 31 = 2 ^ (k + 1) * 2 ^ (30 - k) := by rw [← Nat.pow_add]; congr 1; omega
    have hp : 0 < 2 ^ (30 - k) := Nat.pow_pos (by decide)
    refine ⟨?_, ?_⟩
    · have := Nat.mul_le_mul_right (2 ^ (30 - k)) h1
      rw [← e] at this; exact this
    · have := Nat.mul_lt_mul_of_pos_right h2 hp
      rw [Nat.succ_eq_add_one, ← e2] at this; exact this
theorem log2_lt63 {n : Nat} (h : n < 9223372036854775808) (h0 : n ≠ 0) : Nat.log2 n < 63 := (Nat.log2_lt h0).2 (by simpa using h)
theorem lgN_lt {n : Nat} (h : n < 9223372036854775808) (h0 : n ≠ 0) : lgN n < 4194304 := by
  have h1 := lgIt_lt 16 (Nat.log2 n, lgX n (Nat.log2 n))
  have h2 := log2_lt63 h h0
  unfold lgN
  simp only at h1
  omega
theorem lgN_small {n : Nat} (h : n ≤ 1048576) (h0 : n ≠ 0) : lgN n < 1376256 := by
  have h1 := lgIt_lt 16 (Nat.log2 n, lgX n (Nat.log2 n))
  have h2 : Nat.log2 n < 21 := (Nat.log2_lt h0).2 (by simpa using (show n < 2097152 by omega))
  unfold lgN
  simp only at h1
  omega
def lgLe (a b : Nat × Nat) : Prop := a.1 < b.1 ∨ a.1 = b.1 ∧ a.2 ≤ b.2
theorem lgStep_le {a b : Nat × Nat} (h : lgLe a b) : lgLe (lgStep a) (lgStep b) := by
  unfold lgLe lgStep at *
  rcases h with h | ⟨h, g⟩
  · left
    split <;> split <;> simp only <;> omega
  · have q := Nat.mul_le_mul g g
    generalize a.2 * a.2 = x at *
    generalize b.2 * b.2 = y at *
    split <;> split <;> simp only <;> omega
theorem lgIt_le : ∀ (n : Nat) {a b : Nat × Nat}, lgLe a b → lgLe (lgIt n a) (lgIt n b)
  | 0, _, _, h => h
  | n + 1, _, _, h => lgIt_le n (lgStep_le h)
theorem log2_mono {a b : Nat} (h0 : a ≠ 0) (h : a ≤ b) : Nat.log2 a ≤ Nat.log2 b := by
  have h1 := Nat.log2_self_le h0
  have h2 := (Nat.log2_lt (show b ≠ 0 by omega)).1 (Nat.lt_succ_self (Nat.log2 b))
  rcases Nat.lt_or_ge (Nat.log2 b) (Nat.log2 a) with h3 | h3
  · have := Nat.pow_le_pow_right (show 0 < 2 by decide) (show Nat.succ (Nat.log2 b) ≤ Nat.log2 a from h3)
    omega
  · exact h3
theorem lgN_mono {a b : Nat} (h0 : a ≠ 0) (h : a ≤ b) : lgN a ≤ lgN b := by
  have : lgLe (Nat.log2 a, lgX a (Nat.log2 a)) (Nat.log2 b, lgX b (Nat.log2 b)) := by
    have hm := log2_mono h0 h
    rcases Nat.lt_or_ge (Nat.log2 a) (Nat.log2 b) with h1 | h1
    · exact .inl h1
    · have e : Nat.log2 a = Nat.log2 b := by omega
      refine .inr ⟨e, ?_⟩
      rw [e]
      show lgX a _ ≤ lgX b _
      unfold lgX
      split
      · exact Nat.div_le_div_right h
      · exact Nat.mul_le_mul_right _ h
  have := lgIt_le 16 this
  unfold lgN
  rcases this with h | ⟨h, _⟩ <;> omega
theorem sq_one (c : Nat) (hc : 0 < c) : c * c / c = c := Nat.mul_div_cancel c hc
theorem lgStep_one (k : Nat) : lgStep (k, 1073741824) = (2 * k, 1073741824) := by
  have h := sq_one 1073741824 (by omega)
  unfold lgStep
  dsimp only
  rw [h, if_neg (by omega)]
theorem lgIt_one : ∀ (n k : Nat), lgIt n (k, 1073741824) = (k * 2 ^ n, 1073741824)
  | 0, k => by rw [Nat.pow_zero, Nat.mul_one]; rfl
  | n + 1, k => by
    show lgIt n (lgStep (k, 1073741824)) = _
    rw [lgStep_one, lgIt_one n (2 * k), Nat.pow_succ, Nat.mul_comm 2 k, Nat.mul_assoc, Nat.mul_comm 2]
theorem lgN_pow (n : Nat) : lgN (2 ^ n) = n * 65536 := by
  have h0 : 2 ^ n ≠ 0 := Nat.ne_of_gt (Nat.pow_pos (by decide))
  have hl : Nat.log2 (2 ^ n) = n := Nat.log2_two_pow
  have hx : lgX (2 ^ n) n = 1073741824 := by
    unfold lgX
    split
    · rename_i h
      rw [Nat.pow_div (by omega) (by decide)]
      rw [show n - (n - 30) = 30 by omega]
    · rename_i h
      rw [← Nat.pow_add, show n + (30 - n) = 30 by omega]
  unfold lgN
  rw [hl, hx, lgIt_one]

/-- The logarithm of any number. -/
def logI (n : Int) : Int := if n < 1 then 0 else (lgN n.toNat : Int)
theorem logI_range {n : Int} (h : n < 9223372036854775808) : 0 ≤ logI n ∧ logI n < 4194304 := by
  unfold logI
  split
  · omega
  · have := lgN_lt (n := n.toNat) (by omega) (by omega)
    omega
theorem logI_mono {a b : Int} (h : a ≤ b) : logI a ≤ logI b := by
  unfold logI
  split <;> split
  · omega
  · omega
  · omega
  · have := lgN_mono (a := a.toNat) (b := b.toNat) (by omega) (by omega)
    omega
theorem logI_pow (n : Nat) : logI ((2 ^ n : Nat) : Int) = (n : Int) * 65536 := by
  have h0 : 0 < 2 ^ n := Nat.pow_pos (by decide)
  unfold logI
  rw [if_neg (by omega), Int.toNat_natCast, lgN_pow]
  simp
def clip (n : Int) : Int := if n < 0 then 0 else if 1048576 < n then 1048576 else n
theorem clip_range (n : Int) : 0 ≤ clip n ∧ clip n ≤ 1048576 := by unfold clip; split <;> (try split) <;> omega
theorem clip_mono {a b : Int} (h : a ≤ b) : clip a ≤ clip b := by unfold clip; split <;> split <;> (try split) <;> (try split) <;> omega
/-- What a number counts, by its kind. -/
def cntI (kind n : Int) : Int := if kind = 0 then (if clip n < 1 then clip n else 1) else if kind = 1 then clip n else if kind = 2 then clip n * clip n else if kind = 3 then clip n * logI (clip n) else 0
theorem cntI_range (kind n : Int) : 0 ≤ cntI kind n ∧ cntI kind n ≤ 1443109011456 := by
  have h := clip_range n
  have hl : 0 ≤ logI (clip n) ∧ logI (clip n) ≤ 1376256 := by
    unfold logI
    split
    · omega
    · have := lgN_small (n := (clip n).toNat) (by omega) (by omega)
      omega
  have s1 := Int.mul_le_mul h.2 h.2 h.1 (by decide)
  have s2 := Int.mul_le_mul h.2 hl.2 hl.1 (by decide)
  have s3 := Int.mul_nonneg h.1 h.1
  have s4 := Int.mul_nonneg h.1 hl.1
  unfold cntI
  split
  · split <;> omega
  · split
    · omega
    · split
      · omega
      · split <;> omega
theorem cntI_mono (kind : Int) {a b : Int} (h : a ≤ b) : cntI kind a ≤ cntI kind b := by
  have hc := clip_mono h
  have ha := clip_range a
  have hb := clip_range b
  have hl := logI_mono hc
  have h0 := (logI_range (n := clip a) (by omega)).1
  have s1 := Int.mul_le_mul hc hc ha.1 hb.1
  have s2 := Int.mul_le_mul hc hl h0 hb.1
  unfold cntI
  split
  · split <;> split <;> omega
  · split
    · omega
    · split
      · omega
      · split <;> omega
end Go.Proofs.YtngpmpmhpggpgaaDoorF
end

section
/- Sketches of levels: what they are, and what an item's list must be. -/
set_option maxRecDepth 8192
set_option maxHeartbeats 2000000
namespace Go.Proofs.YtngpmpmhpggpgaaDoorF
open Go Go.Proofs.Vm

/-- A level: its seed, its rows, its items. -/
abbrev Lv := Int × List (List Int) × List Itm
/-- A sketch: its seed, its room, its levels. -/
abbrev Us := Int × Int × List Lv
def cLv (l : Lv) : List CV := [.v (.int .u64 l.1), cRows l.2.1, cItms l.2.2]
def cUs (s : Us) : List CV := [.v (.int .u64 s.1), .v (.int .i64 s.2.1), .arr (s.2.2.map cLv)]

instance bytesLawful : LawfulBEq ByteArray where
  eq_of_beq h := (Go.MapKept.bytes_beq _ _).1 h
  rfl := (Go.MapKept.bytes_beq _ _).2 rfl

/-! Items as they must stand. -/
theorem srt_adj {l : List Itm} (h : Srt l) {q : Nat} (h0 : 0 < q) (hq : q < l.length) : ordI (l[q - 1]'(by omega)) l[q] < 0 := List.pairwise_iff_getElem.1 h (q - 1) q (by omega) hq (by omega)
theorem srt_of_adj {l : List Itm} (h : ∀ q, ∀ h0 : 0 < q, ∀ hq : q < l.length, ordI (l[q - 1]'(by omega)) l[q] < 0) : Srt l := by
  refine List.pairwise_iff_getElem.2 fun i j hi hj hij => ?_
  obtain ⟨d, rfl⟩ : ∃ d, j = i + (d + 1) := ⟨j - i - 1, by omega⟩
  clear hij
  induction d with
  | zero => exact h (i + 1) (by omega) hj
  | succ d ih => exact ordI_trans (ih (by omega)) (h (i + (d + 1 + 1)) (by omega) hj)
theorem keys_iff {l : List Itm} : Keys l ↔ ∀ p q, ∀ hq : q < l.length, ∀ hp : p < q, l[p].1 ≠ l[q].1 := by
  unfold Keys List.Nodup
  rw [List.pairwise_map, List.pairwise_iff_getElem]
  exact ⟨fun h p q hq hp => h p q (by omega) hq hp, fun h i j hi hj hij => h i j hj hij⟩
theorem notK_count (k : ByteArray) (l : List Itm) : (notK k l).length + l.countP (fun x => decide (x.1 = k)) = l.length := by
  induction l with
  | nil => rfl
  | cons x r ih =>
    unfold notK at *
    by_cases h : x.1 = k <;> simp [h] at * <;> omega
theorem keys_count {l : List Itm} (h : Keys l) {i : Nat} (hi : i < l.length) : (notK l[i].1 l).length + 1 = l.length := by
  have h1 := notK_count l[i].1 l
  have h2 := List.nodup_iff_count.1 h l[i].1
  rw [List.count_eq_countP, List.countP_map] at h2
  have e : ((fun x => x == l[i].1) ∘ fun (x : Itm) => x.1) = fun x => decide (x.1 = l[i].1) := by
    funext x
    by_cases hx : x.1 = l[i].1 <;> simp [hx]
  rw [e] at h2
  have h3 : 0 < l.countP (fun x => decide (x.1 = l[i].1)) := List.countP_pos_iff.2 ⟨l[i], List.getElem_mem hi, by simp⟩
  omega
theorem count_two {l : List Itm} {p q : Nat} (hq : q < l.length) (hp : p < q) (h : l[p].1 = l[q].1) : (notK l[q].1 l).length + 2 ≤ l.length := by
  have h1 := notK_count l[q].1 l
  have h2 : l.countP (fun x => decide (x.1 = l[q].1)) = (l.take q).countP (fun x => decide (x.1 = l[q].1)) + (l.drop q).countP (fun x => decide (x.1 = l[q].1)) := by rw [← List.countP_append, List.take_append_drop]
  have h3 : 0 < (l.take q).countP (fun x => decide (x.1 = l[q].1)) := List.countP_pos_iff.2 ⟨l[p], List.mem_take_iff_getElem.2 ⟨p, by omega, rfl⟩, by simp [h]⟩
  have h4 : 0 < (l.drop q).countP (fun x => decide (x.1 = l[q].1)) := List.countP_pos_iff.2 ⟨l[q], by rw [List.drop_eq_getElem_cons hq]; exact List.mem_cons_self, by simp⟩
  omega
open Classical in
/-- Such as stand, with unlike keys. -/
noncomputable def topB (l : List Itm) : Bool := decide (Srt l ∧ Keys l)
open Classical in
theorem topB_iff {l : List Itm} : topB l = true ↔ Srt l ∧ Keys l := by unfold topB; exact decide_eq_true_iff
open Classical in
theorem topB_no {l : List Itm} (h : ¬ (Srt l ∧ Keys l)) : topB l = false := by unfold topB; exact decide_eq_false h
theorem insL_last {x : Itm} : ∀ {m : List Itm}, (∀ y ∈ m, ordI y x < 0) → insL x m = m ++ [x]
  | [], _ => rfl
  | y :: r, h => by
    have h1 := h y List.mem_cons_self
    have h2 := ordI_neg y x
    have : aheadB x y = false := decide_eq_false (by omega)
    unfold insL
    rw [this, if_neg (by simp), insL_last fun z hz => h z (List.mem_cons_of_mem _ hz)]
    rfl
/-- What stands, offered again, stands so again. -/
theorem refAll_self {room : Int} {l : List Itm} (hs : Srt l) (hk : Keys l) (hl : (l.length : Int) ≤ room) : refAll room l = l := by
  have : ∀ i, i ≤ l.length → refAll room (l.take i) = l.take i := by
    intro i
    induction i with
    | zero => intro _; rfl
    | succ i ih =>
      intro h
      have hi : i < l.length := by omega
      rw [refAll_take hi, ih (by omega)]
      have hn : notK l[i].1 (l.take i) = l.take i := notK_self fun x hx e => by
        obtain ⟨p, hp, rfl⟩ := List.mem_take_iff_getElem.1 hx
        exact keys_iff.1 hk p i hi (by omega) e
      have hlt : (l.take i).length = i := by simp; omega
      unfold refOffer
      rw [hn, if_pos (.inr (by rw [hlt]; omega))]
      show insL (l[i].1, l[i].2) (l.take i) = _
      rw [List.take_add_one, List.getElem?_eq_getElem hi]
      exact insL_last fun y hy => by
        obtain ⟨p, hp, rfl⟩ := List.mem_take_iff_getElem.1 hy
        exact List.pairwise_iff_getElem.1 hs p i (by omega) hi (by omega)
  have h := this l.length (Nat.le_refl _)
  rwa [List.take_length] at h
theorem offer_top {room : Int} {m : List Itm} (hs : Srt m) (hk : Keys m) (hl : (m.length : Int) ≤ room) (hr : 1 ≤ room) (k : ByteArray) (c : Int) : Srt (refOffer room m k c).1 ∧ Keys (refOffer room m k c).1 ∧ ((refOffer room m k c).1.length : Int) ≤ room := by
  have hins : ∀ r : List Itm, Srt r → Keys r → (∀ y ∈ r, y.1 ≠ k) → Srt (insL (k, c) r) ∧ Keys (insL (k, c) r) := fun r h1 h2 h3 => by
    refine ⟨insL_srt _ _ h1 h3, ?_⟩
    have hp := (insL_perm (k, c) r).map (·.1)
    refine hp.nodup_iff.2 ?_
    rw [List.map_cons, List.nodup_cons]
    refine ⟨fun h => ?_, h2⟩
    obtain ⟨y, hy, e⟩ := List.mem_map.1 h
    exact h3 y hy e
  have hsub : (notK k m).Sublist m := List.filter_sublist
  have hns : Srt (notK k m) := List.Pairwise.sublist hsub hs
  have hnk : Keys (notK k m) := (hsub.map _).nodup hk
  unfold refOffer
  split
  · rename_i h
    refine ⟨(hins _ hns hnk notK_ne).1, (hins _ hns hnk notK_ne).2, ?_⟩
    have := hsub.length_le
    simp only [insL_len]
    omega
  · rename_i h
    have hnn : notK k m = m := by
      have := hsub.length_le
      exact hsub.eq_of_length (by omega)
    split
    · rename_i hc
      have hd : (m.dropLast).Sublist m := List.dropLast_sublist m
      have hdk : ∀ y ∈ m.dropLast, y.1 ≠ k := fun y hy => by
        have := hd.subset hy
        rw [← hnn] at this
        exact notK_ne y this
      have h1 := hins m.dropLast (List.Pairwise.sublist hd hs) ((hd.map _).nodup hk) hdk
      refine ⟨h1.1, h1.2, ?_⟩
      simp only [insL_len, List.length_dropLast]
      omega
    · exact ⟨hs, hk, hl⟩

/-! Sketches that are right. -/
def fstR (s : Us) : List (List Int) := (s.2.2.headD (0, [], [])).2.1
noncomputable def lvB (s : Us) (j : Nat) (l : Lv) : Bool := okB l.2.1 && (decide (l.1 = hrow s.1 ((j : Int) + 1)) && (decide (l.2.1.length = (fstR s).length) && (decide ((l.2.1.headD []).length = ((fstR s).headD []).length) && (decide ((l.2.2.length : Int) ≤ s.2.1) && topB l.2.2))))
structure LvOk (s : Us) (j : Nat) (l : Lv) : Prop where
  ok : OkR l.2.1
  seed : l.1 = hrow s.1 ((j : Int) + 1)
  rows : l.2.1.length = (fstR s).length
  cols : (l.2.1.headD []).length = ((fstR s).headD []).length
  room : (l.2.2.length : Int) ≤ s.2.1
  srt : Srt l.2.2
  keys : Keys l.2.2
theorem lvB_iff {s : Us} {j : Nat} {l : Lv} : lvB s j l = true ↔ LvOk s j l := by
  unfold lvB
  simp only [Bool.and_eq_true, decide_eq_true_eq, okB_iff, topB_iff]
  exact ⟨fun ⟨a, b, c, d, e, f, g⟩ => ⟨a, b, c, d, e, f, g⟩, fun ⟨a, b, c, d, e, f, g⟩ => ⟨a, b, c, d, e, f, g⟩⟩
structure UOk (s : Us) : Prop where
  r1 : 1 ≤ s.2.1
  r2 : s.2.1 ≤ 64
  l1 : 1 ≤ s.2.2.length
  l2 : s.2.2.length ≤ 16
  lv : ∀ j, ∀ h : j < s.2.2.length, LvOk s j s.2.2[j]
open Classical in
noncomputable def uOk (s : Us) : Bool := decide (UOk s)
open Classical in
theorem uOk_iff {s : Us} : uOk s = true ↔ UOk s := by unfold uOk; exact decide_eq_true_iff
open Classical in
theorem uOk_no {s : Us} (h : ¬ UOk s) : uOk s = false := by unfold uOk; exact decide_eq_false h
theorem uOk_lv {s : Us} {j : Nat} (h : j < s.2.2.length) (hb : lvB s j s.2.2[j] = false) : uOk s = false := uOk_no fun u => by
  rw [lvB_iff.2 (u.lv j h)] at hb; cases hb
/-- Of any data of the type. -/
structure UGood (s : Us) : Prop where
  s0 : 0 ≤ s.1
  s1 : s.1 < 18446744073709551616
  len : s.2.2.length < 4611686018427387904
  lv : ∀ l ∈ s.2.2, 0 ≤ l.1 ∧ l.1 < 18446744073709551616 ∧ l.2.1.length < 4611686018427387904 ∧ (∀ r ∈ l.2.1, r.length < 4611686018427387904) ∧ l.2.2.length < 4611686018427387904
/-- A key's level. -/
def uLev (s : Us) (key : ByteArray) : Int := hlev (hrow s.1 0) key ((s.2.2.length : Int) - 1)
theorem uLev_range {s : Us} (h : 1 ≤ s.2.2.length) (key : ByteArray) : 0 ≤ uLev s key ∧ uLev s key < s.2.2.length := by
  have := hlev_range (hrow s.1 0) key ((s.2.2.length : Int) - 1)
  unfold uLev
  omega
/-- What a level tells of a key. -/
def lvGet (l : Lv) (key : ByteArray) : Int := med (getL l.1 key l.2.1)
def addL (l : Lv) (key : ByteArray) : List (List Int) := addRows l.1 key 1 l.2.1
def updL (room : Int) (key : ByteArray) (l : Lv) : Lv := (l.1, addL l key, (refOffer room l.2.2 key (med (getL l.1 key (addL l key)))).1)
def fitL (key : ByteArray) (l : Lv) : Prop := ∀ j, ∀ h : j < l.2.1.length, fitsB (newV l.1 key 1 (j : Int) l.2.1[j]) = true
/-- The levels, so many of them with a key more. -/
def lvTo (s : Us) (key : ByteArray) (k : Nat) : List Lv := s.2.2.mapIdx fun j l => if j < k then updL s.2.1 key l else l
theorem lvTo_len (s : Us) (key : ByteArray) (k : Nat) : (lvTo s key k).length = s.2.2.length := by simp [lvTo]
theorem lvTo_zero (s : Us) (key : ByteArray) : lvTo s key 0 = s.2.2 := by
  apply List.ext_getElem
  · simp [lvTo]
  · intro j h1 h2; simp [lvTo]
theorem lvTo_at (s : Us) (key : ByteArray) (k : Nat) (h : k < s.2.2.length) : (lvTo s key k)[k]'(by rw [lvTo_len]; exact h) = s.2.2[k] := by simp [lvTo]
theorem lvTo_set (s : Us) (key : ByteArray) (k : Nat) (h : k < s.2.2.length) : (lvTo s key k).set k (updL s.2.1 key s.2.2[k]) = lvTo s key (k + 1) := by
  apply List.ext_getElem
  · simp [lvTo]
  · intro j h1 h2
    rw [List.getElem_set]
    simp only [lvTo, List.getElem_mapIdx]
    by_cases hj : k = j
    · subst hj; simp
    · rw [if_neg hj]
      by_cases hj2 : j < k
      · rw [if_pos hj2, if_pos (by omega)]
      · rw [if_neg hj2, if_neg (by omega)]
/-- A key more. -/
def uAdd (s : Us) (key : ByteArray) : Us := (s.1, s.2.1, lvTo s key ((uLev s key).toNat + 1))
def fitU (s : Us) (key : ByteArray) : Prop := ∀ j, ∀ h : j < s.2.2.length, (j : Int) ≤ uLev s key → fitL key s.2.2[j]
end Go.Proofs.YtngpmpmhpggpgaaDoorF
end

section
/- Is a sketch of levels right? -/
set_option maxRecDepth 8192
set_option maxHeartbeats 2000000
namespace Go.Proofs.YtngpmpmhpggpgaaDoorF
open Go Go.Proofs.Vm

theorem stands (a b : Itm) : TV.pu 52 [.agg (cItm a), .agg (cItm b)] = some (cI .i64 (ordI a b)) := by
  refine run52 (by simp) ?_
  simp -implicitDefEqProofs [Tryd.f52, Compare, Or, cItm, ordI, cmpPu, vbuildSlice_eq es72 el3, cellsOf?, fzParts, setAll, rchParts, rch]
theorem index_itms {g : CV} {caps : List CV} {f : FuncId} (hg : g = .fn f caps) {p : Itm → Bool} {r : List Itm} (hp : ∀ x ∈ r, TV.pu f (.agg (cItm x) :: caps.map .one) = some (cB (p x))) (hl : r.length < 9223372036854775807) :
    TV.pu 35 [.one (cItms r), .one g] = some (cI .i64 (idxF p r)) := by
  subst hg
  refine run35 (by simp) ?_
  simp [Tryd.f35, cItms]
  obtain ⟨I, hI⟩ : ∃ I : Nat → St → Prop, ∀ k s', I k s' ↔ (∃ e j, s' = ⟨e, []⟩ ∧ e 0 = .one (.c (cItms r)) ∧ e 1 = .one (.c (.fn f caps)) ∧ e 7 = vI .i64 r.length ∧ e 8 = vI .i64 (j : Nat) ∧ j + k = r.length ∧ ∀ q, q < j → ∀ x, r[q]? = some x → p x = false) := ⟨_, fun _ _ => Iff.rfl⟩
  refine wpL_ind I ?_ r.length _ ((hI _ _).2 ⟨_, 0, rfl, by simp [cItms], by simp, by simp, by simp, by omega, by simp⟩)
  intro k st hst
  obtain ⟨e, j, rfl, e0, e1, e7, e8, hk, hno⟩ := (hI _ _).1 hst
  by_cases c : j < r.length
  · have hx : r[j]? = some r[j] := List.getElem?_eq_getElem c
    have hpj := hp r[j] (List.getElem_mem c)
    have w1 : IntKind.i64.wrap ((j : Int) + 1) = ((j + 1 : Nat) : Int) := by rw [w64_id (by omega) (by omega)]; omega
    simp only [cItm] at hpj
    simp [e0, e1, e7, e8, cItms, cItm, c, hpj, w1]
    by_cases hj : p r[j] = true
    · simp [hj, idxF_at p r j c hj hno]
    · simp [hj]
      refine ⟨k - 1, by omega, (hI _ _).2 ⟨_, j + 1, rfl, by simp [e0], by simp [e1], by simp [e7], by simp, by omega, ?_⟩⟩
      intro q hq x hx2
      by_cases hqj : q = j
      · subst hqj
        rw [hx] at hx2
        cases hx2
        simpa using hj
      · exact hno q (by omega) x hx2
  · have c' : ¬ (j : Int) < (r.length : Int) := by omega
    simp [e0, e1, e7, e8, c']
    rw [idxF_none p r fun q hq => hno q (by omega)]
theorem top_lam (x y : Itm) : TV.pu 53 [.agg (cItm y), .one (.cptr (cItm x))] = some (cB (decide (y.1 = x.1))) := by
  refine run53 (by simp) ?_
  by_cases h : y.1 = x.1
  · simp -implicitDefEqProofs [Tryd.f53, cItm, sbin_eql, h]
  · simp -implicitDefEqProofs [Tryd.f53, cItm, sbin_eql, toList_inj, h]
theorem idx_key {l : List Itm} {i : Nat} (c : i < l.length) : ∃ q, ∃ hq : q ≤ i, idxF (fun y => decide (y.1 = l[i].1)) l = (q : Int) ∧ (l[q]'(by omega)).1 = l[i].1 ∧ ∀ p, ∀ hp : p < q, (l[p]'(by omega)).1 ≠ l[i].1 := by
  obtain ⟨q, hq, h1, h2⟩ : ∃ q, ∃ hq : q ≤ i, (l[q]'(by omega)).1 = l[i].1 ∧ ∀ p, ∀ hp : p < q, (l[p]'(by omega)).1 ≠ l[i].1 := by
    have : ∀ n, ∀ i', ∀ hi : i' ≤ i, i' < n → (l[i']'(by omega)).1 = l[i].1 → ∃ q, ∃ hq : q ≤ i, (l[q]'(by omega)).1 = l[i].1 ∧ ∀ p, ∀ hp : p < q, (l[p]'(by omega)).1 ≠ l[i].1 := by
      intro n
      induction n with
      | zero => intro i' _ h; omega
      | succ n ih =>
        intro i' hi hn he
        by_cases hx : ∃ p, ∃ hp : p < i', (l[p]'(by omega)).1 = l[i].1
        · obtain ⟨p, hp, hpe⟩ := hx
          exact ih p (by omega) (by omega) hpe
        · exact ⟨i', hi, he, fun p hp e => hx ⟨p, hp, e⟩⟩
    exact this (i + 1) i (Nat.le_refl _) (by omega) rfl
  refine ⟨q, hq, ?_, h1, h2⟩
  exact idxF_at _ _ q (by omega) (decide_eq_true h1) fun p hp x hx => by
    obtain ⟨hp2, rfl⟩ := List.getElem?_eq_some_iff.1 hx
    exact decide_eq_false (h2 p hp)
theorem univ_top (l : List Itm) (hl : l.length < 4611686018427387904) : TV.pu 34 [.one (cItms l)] = some (cB (topB l)) := by
  refine run34 (by simp) ?_
  obtain ⟨R, hR⟩ : ∃ R, topB l = R := ⟨_, rfl⟩
  rw [hR]
  simp -implicitDefEqProofs [Tryd.f34, cItms]
  obtain ⟨I, hI⟩ : ∃ I : Nat → St → Prop, ∀ k s', I k s' ↔ (∃ e i L, s' = ⟨e, L⟩ ∧ e 0 = .one (.c (cItms l)) ∧ e 5 = .one (.c (cItms l)) ∧ e 6 = vI .i64 l.length ∧ e 7 = vI .i64 (i : Nat) ∧ (i + k = l.length) ∧ (∀ q, ∀ h0 : 0 < q, ∀ hq : q < l.length, q < i → ordI (l[q - 1]'(by omega)) l[q] < 0) ∧ (∀ p q, ∀ hq : q < l.length, ∀ hp : p < q, q < i → l[p].1 ≠ l[q].1)) := ⟨_, fun _ _ => Iff.rfl⟩
  refine wpL_ind I ?_ l.length _ ((hI _ _).2 ⟨_, 0, _, (by first | rfl | (simp [cItms]; done) | (simp [cItms]; rfl) | (simp [cItms]; and_intros <;> rfl)), by simp [cItms], by simp [cItms], by simp, by simp, by omega, fun q _ _ h => absurd h (Nat.not_lt_zero _), fun p q _ _ h => absurd h (Nat.not_lt_zero _)⟩)
  intro k stI hstI
  obtain ⟨e, i, L, rfl, e0, e5, e6, e7, hk, ha, hn⟩ := (hI _ _).1 hstI
  by_cases c : i < l.length
  rotate_left
  · have hRt : R = true := by
      rw [← hR, topB_iff]
      exact ⟨srt_of_adj fun q h0 hq => ha q h0 hq (by omega), keys_iff.2 fun p q hq hp => hn p q hq hp (by omega)⟩
    simp -implicitDefEqProofs [e6, e7, c, hRt]
  have w_i : IntKind.i64.wrap ((i : Int) + 1) = ((i + 1 : Nat) : Int) := by rw [w64_id (by omega) (by omega)]; omega
  obtain ⟨q, hq, hix, hqe, hqn⟩ := idx_key c
  have hI2 := index_itms (g := .fn 53 [.cptr (cItm l[i])]) rfl (p := fun y => decide (y.1 = l[i].1)) (r := l) (fun x _ => top_lam l[i] x) (by omega)
  rw [hix] at hI2
  simp only [cItms, cItm] at hI2
  have hlt : ((q : Int) < (i : Int)) ∨ ¬ ((q : Int) < (i : Int)) := Classical.em _
  by_cases c0 : 0 < i
  · have c0' : 0 < (i : Int) := by omega
    have hs := stands l[i - 1] l[i]
    simp only [cItm] at hs
    have w1 : IntKind.i64.wrap ((i : Int) - 1) = ((i - 1 : Nat) : Int) := by rw [w64_id (by omega) (by omega)]; omega
    have c1 : i - 1 < l.length := by omega
    by_cases d : 0 ≤ ordI l[i - 1] l[i]
    · have hRf : R = false := by
        rw [← hR]
        exact topB_no fun h => by have := srt_adj h.1 c0 c; omega
      simp -implicitDefEqProofs [e0, e5, e6, e7, c, c1, c0, w1, hs, d, hRf, cItms, cItm, vstore, cellsOf?, Ent.wrO, wr]
    · by_cases d2 : q < i
      · have d2' : (q : Int) < i := by omega
        have hRf : R = false := by
          rw [← hR]
          exact topB_no fun h => keys_iff.1 h.2 q i c d2 hqe
        simp -implicitDefEqProofs [e0, e5, e6, e7, c, c1, c0, w1, hs, d, d2', hI2, hRf, cItms, cItm, vstore, cellsOf?, Ent.wrO, wr, rcha, rch, frzAll]
      · have d2' : ¬ (q : Int) < i := by omega
        simp -implicitDefEqProofs [e0, e5, e6, e7, c, c1, c0, w1, hs, d, d2', hI2, w_i, cItms, cItm, vstore, cellsOf?, Ent.wrO, wr, rcha, rch, frzAll]
        exact ⟨k - 1, by omega, (hI _ _).2 ⟨_, i + 1, _, (by first | rfl | (simp [cItms]; done) | (simp [cItms]; rfl) | (simp [cItms]; and_intros <;> rfl)), by simp [e0, cItms], by simp [e5, cItms], by simp [e6], by simp, by omega, (fun q h0 hq h => if e : q = i then by subst e; omega else ha q h0 hq (by omega)), (fun p q' hq' hp h => if e : q' = i then by subst e; exact hqn p (by omega) else hn p q' hq' hp (by omega))⟩⟩
  · have hi0 : i = 0 := by omega
    subst hi0
    have hq0 : q = 0 := by omega
    subst hq0
    have w1 : IntKind.i64.wrap 1 = 1 := by decide
    simp -implicitDefEqProofs [e0, e5, e6, e7, c, hI2, cItms, cItm, vstore, cellsOf?, Ent.wrO, wr, rcha, rch, frzAll]
    exact ⟨k - 1, by omega, (hI _ _).2 ⟨_, 1, _, (by first | rfl | (simp [cItms, w1]; done) | (simp [cItms, w1]; rfl) | (simp [cItms, w1]; and_intros <;> rfl)), by simp [e0, cItms, w1], by simp [e5, cItms, w1], by simp [e6, w1], by simp [w1], by omega, (fun q h0 hq h => absurd h (by omega)), (fun p q' hq' hp h => absurd h (by omega))⟩⟩
end Go.Proofs.YtngpmpmhpggpgaaDoorF
end

section
/- The middle of numbers: plain facts. -/
set_option maxRecDepth 8192
set_option maxHeartbeats 2000000
namespace Go.Proofs.YtngpmpmhpggpgaaDoorF
open Go Go.Proofs.Vm

theorem ssign_sq (seed : Int) (key : ByteArray) (i : Int) : ssign seed key i * ssign seed key i = 1 := by
  rcases ssign_or seed key i with h | h <;> rw [h] <;> rfl
theorem getL_add {rows : List (List Int)} (hok : OkR rows) (seed : Int) (key : ByteArray) (n : Int) : getL seed key (addRows seed key n rows) = (getL seed key rows).map (· + n) := by
  apply List.ext_getElem
  · simp [getL, addRows_len]
  · intro i h1 h2
    have hi : i < rows.length := by simpa [getL] using h2
    have hcell := hcell_range (hrow seed (2 * (i : Int))) key (rows[i].length : Int) (by have := (hok.row _ (List.getElem_mem hi)).1; omega)
    have hql : (scell seed key (i : Int) rows[i].length).toNat < rows[i].length := by
      have h1 : scell seed key (i : Int) rows[i].length < rows[i].length := hcell.2
      have h2 : 0 ≤ scell seed key (i : Int) rows[i].length := hcell.1
      omega
    have hl : (updRow seed key n (i : Int) rows[i]).length = rows[i].length := by simp [updRow]
    simp only [getL, List.getElem_mapIdx, List.getElem_map, addRows_at i hi]
    rw [hl]
    have hg : (updRow seed key n (i : Int) rows[i]).getD (scell seed key (i : Int) rows[i].length).toNat 0 = newV seed key n (i : Int) rows[i] := by
      unfold updRow
      rw [List.getD_eq_getElem?_getD, List.getElem?_set_self hql]
      rfl
    rw [hg, newV, Int.mul_add, ← Int.mul_assoc, ssign_sq, Int.one_mul]
theorem med_const {l : List Int} (h : l ≠ []) (n : Int) (hc : ∀ x ∈ l, x = n) : med l = n := hc _ (med_mem h)

theorem srt_length (l : List Int) : (srt l).length = l.length := by simp [srt]
theorem srt_perm (l : List Int) : (srt l).Perm l := List.mergeSort_perm l _
theorem srt_sorted (l : List Int) : (srt l).Pairwise (fun x y => x ≤ y) := by
  have h := List.pairwise_mergeSort (le := fun x y : Int => decide (x ≤ y)) (fun a b c h1 h2 => by simp at *; omega) (fun a b => by simp; omega) l
  exact h.imp (fun h => by simpa using h)
theorem srt_le (l : List Int) (i j : Nat) (hij : i ≤ j) (hj : j < (srt l).length) : (srt l)[i] ≤ (srt l)[j] := by
  by_cases e : i = j
  · subst e; exact Int.le_refl _
  · exact List.pairwise_iff_getElem.1 (srt_sorted l) i j (by omega) hj (by omega)
theorem count_take (l : List Int) (p : Int → Bool) (m : Nat) (hp : ∀ i, i < m → ∀ (h : i < l.length), p l[i] = true) (hm : m ≤ l.length) : m ≤ l.countP p := by
  have e := List.take_append_drop m l
  rw [← e, List.countP_append]
  have : (l.take m).countP p = (l.take m).length := List.countP_eq_length.2 (fun x hx => by
    obtain ⟨i, hi, rfl⟩ := List.getElem_of_mem hx
    rw [List.length_take] at hi
    rw [List.getElem_take]
    exact hp i (by omega) (by omega))
  rw [this, List.length_take]; omega
theorem count_drop (l : List Int) (p : Int → Bool) (m : Nat) (hp : ∀ i, m ≤ i → ∀ (h : i < l.length), p l[i] = true) : l.length - m ≤ l.countP p := by
  have e := List.take_append_drop m l
  rw [← e, List.countP_append]
  have : (l.drop m).countP p = (l.drop m).length := List.countP_eq_length.2 (fun x hx => by
    obtain ⟨i, hi, rfl⟩ := List.getElem_of_mem hx
    rw [List.length_drop] at hi
    rw [List.getElem_drop]
    exact hp (m + i) (by omega) (by omega))
  rw [this, List.length_drop, List.take_append_drop]; omega
theorem count_none (l : List Int) (p : Int → Bool) (m : Nat) (hp : ∀ i, m ≤ i → ∀ (h : i < l.length), p l[i] = false) : l.countP p ≤ m := by
  have e := List.take_append_drop m l
  rw [← e, List.countP_append]
  have h2 : (l.drop m).countP p = 0 := List.countP_eq_zero.2 (fun x hx => by
    obtain ⟨i, hi, rfl⟩ := List.getElem_of_mem hx
    rw [List.length_drop] at hi
    rw [List.getElem_drop, hp (m + i) (by omega) (by omega)]
    simp)
  have h1 : (l.take m).countP p ≤ (l.take m).length := List.countP_le_length
  rw [List.length_take] at h1
  omega
theorem count_none' (l : List Int) (p : Int → Bool) (m : Nat) (hp : ∀ i, i < m → ∀ (h : i < l.length), p l[i] = false) : l.countP p ≤ l.length - m := by
  have e := List.take_append_drop m l
  have h2 : (l.take m).countP p = 0 := List.countP_eq_zero.2 (fun x hx => by
    obtain ⟨i, hi, rfl⟩ := List.getElem_of_mem hx
    rw [List.length_take] at hi
    rw [List.getElem_take, hp i (by omega) (by omega)]
    simp)
  have h1 : (l.drop m).countP p ≤ (l.drop m).length := List.countP_le_length
  rw [List.length_drop] at h1
  have h3 : l.countP p = (l.take m).countP p + (l.drop m).countP p := by rw [← List.countP_append, e]
  omega
theorem med_get {l : List Int} (h : l ≠ []) : ∃ hm : l.length / 2 < (srt l).length, med l = (srt l)[l.length / 2] := by
  have hp : 0 < l.length := List.length_pos_iff.2 h
  have hm : l.length / 2 < (srt l).length := by rw [srt_length]; omega
  exact ⟨hm, by unfold med; rw [List.getD_eq_getElem?_getD, List.getElem?_eq_getElem hm]; rfl⟩
/-- More than half of a list's numbers are at least so big: then so is the middle one. -/
theorem med_ge {l : List Int} (h : l ≠ []) (v : Int) (hc : l.length / 2 < l.countP (fun x => decide (v ≤ x))) : v ≤ med l := by
  obtain ⟨hm, e⟩ := med_get h
  rw [← (srt_perm l).countP_eq] at hc
  rw [e]
  by_cases c : v ≤ (srt l)[l.length / 2]
  · exact c
  · exfalso
    have hl := srt_length l
    have h1 := count_none' (srt l) (fun x => decide (v ≤ x)) (l.length / 2 + 1) (fun i hi hx => decide_eq_false (by
      have := srt_le l i (l.length / 2) (by omega) hm
      omega))
    omega
theorem med_le {l : List Int} (h : l ≠ []) (_ho : l.length % 2 = 1) (v : Int) (hc : l.length / 2 < l.countP (fun x => decide (x ≤ v))) : med l ≤ v := by
  obtain ⟨hm, e⟩ := med_get h
  rw [← (srt_perm l).countP_eq] at hc
  rw [e]
  by_cases c : (srt l)[l.length / 2] ≤ v
  · exact c
  · exfalso
    have h1 := count_none (srt l) (fun x => decide (x ≤ v)) (l.length / 2) (fun i hi hx => decide_eq_false (by
      have := srt_le l (l.length / 2) i hi hx
      omega))
    omega
end Go.Proofs.YtngpmpmhpggpgaaDoorF
end

section
/- Items added, cell by cell. -/
set_option maxRecDepth 8192
set_option maxHeartbeats 2000000
namespace Go.Proofs.YtngpmpmhpggpgaaDoorF
open Go Go.Proofs.Vm

def addAll (seed : Int) (rows : List (List Int)) (l : List Itm) : List (List Int) := l.foldl (fun r x => addRows seed x.1 x.2 r) rows

abbrev Sh := Nat → Nat → Nat → Int
def shiftR (f : Sh) (rows : List (List Int)) : List (List Int) := rows.mapIdx fun i r => r.mapIdx fun q v => v + f i r.length q
def one1 (seed : Int) (key : ByteArray) (n : Int) : Sh := fun i len q => if (scell seed key (i : Int) (len : Int)).toNat = q then ssign seed key (i : Int) * n else 0
def dlt (seed : Int) : List Itm → Sh
  | [], _, _, _ => 0
  | x :: t, i, len, q => one1 seed x.1 x.2 i len q + dlt seed t i len q

theorem shiftR_len (f : Sh) (rows : List (List Int)) : (shiftR f rows).length = rows.length := by simp [shiftR]
theorem shiftR_at (f : Sh) (rows : List (List Int)) (i : Nat) (h : i < rows.length) (h2 : i < (shiftR f rows).length) : (shiftR f rows)[i] = rows[i].mapIdx fun q v => v + f i rows[i].length q := by simp [shiftR]
theorem ext2 {a b : List (List Int)} (h : a.length = b.length) (h2 : ∀ i, ∀ h1 : i < a.length, ∀ h2 : i < b.length, a[i].length = b[i].length ∧ ∀ q, ∀ g1 : q < a[i].length, ∀ g2 : q < b[i].length, a[i][q] = b[i][q]) : a = b := by
  apply List.ext_getElem h
  intro i g1 g2
  obtain ⟨h3, h4⟩ := h2 i g1 g2
  exact List.ext_getElem h3 h4
theorem addRows_shift (seed : Int) (key : ByteArray) (n : Int) (rows : List (List Int)) : addRows seed key n rows = shiftR (one1 seed key n) rows := by
  apply List.ext_getElem
  · rw [addRows_len, shiftR_len]
  · intro i h1 h2
    have h : i < rows.length := by rw [addRows_len] at h1; exact h1
    rw [addRows_at i h, shiftR_at _ _ i h]
    apply List.ext_getElem
    · simp [updRow]
    · intro q g1 g2
      simp only [updRow, List.getElem_set, List.getElem_mapIdx, one1]
      by_cases c : (scell seed key (i : Int) rows[i].length).toNat = q
      · rw [if_pos c, if_pos c]
        have hq : q < rows[i].length := by simpa [updRow] using g1
        simp [newV, c, hq]
      · rw [if_neg c, if_neg c, Int.add_zero]
theorem shiftR_shiftR (f g : Sh) (rows : List (List Int)) : shiftR g (shiftR f rows) = shiftR (fun i len q => f i len q + g i len q) rows := by
  apply ext2
  · simp [shiftR_len]
  · intro i h1 h2
    have h : i < rows.length := by rw [shiftR_len] at h2; exact h2
    have h' : i < (shiftR f rows).length := by rw [shiftR_len]; exact h
    rw [shiftR_at _ _ i h', shiftR_at _ _ i h, shiftR_at _ _ i h]
    refine ⟨by simp, fun q g1 g2 => ?_⟩
    simp [Int.add_assoc]
theorem shiftR_congr {f g : Sh} (h : ∀ i len q, f i len q = g i len q) (rows : List (List Int)) : shiftR f rows = shiftR g rows := by
  have : f = g := by funext i len q; exact h i len q
  rw [this]
theorem shiftR_zero (rows : List (List Int)) : shiftR (fun _ _ _ => 0) rows = rows := by
  apply ext2
  · simp [shiftR_len]
  · intro i h1 h2
    rw [shiftR_at _ _ i h2]
    exact ⟨by simp, fun q g1 g2 => by simp⟩
theorem addAll_shift (seed : Int) : ∀ (l : List Itm) (rows : List (List Int)), addAll seed rows l = shiftR (dlt seed l) rows
  | [], rows => by
    rw [show dlt seed [] = fun _ _ _ => 0 from by funext i len q; rfl, shiftR_zero]; rfl
  | x :: t, rows => by
    rw [show addAll seed rows (x :: t) = addAll seed (addRows seed x.1 x.2 rows) t from rfl, addAll_shift seed t, addRows_shift, shiftR_shiftR]
    rfl
theorem addAll_len (seed : Int) (l : List Itm) (rows : List (List Int)) : (addAll seed rows l).length = rows.length := by rw [addAll_shift, shiftR_len]
end Go.Proofs.YtngpmpmhpggpgaaDoorF
end

section
/- What rows tell of a key. -/
set_option maxRecDepth 8192
set_option maxHeartbeats 2000000
namespace Go.Proofs.YtngpmpmhpggpgaaDoorF
open Go Go.Proofs.Vm

/-- What was added for the key, and for the others of its cell in row i (of so many cells). -/
def ownS (key : ByteArray) : List Itm → Int
  | [] => 0
  | x :: t => (if x.1 = key then x.2 else 0) + ownS key t
def othS (seed : Int) (key : ByteArray) (cols : Nat) (i : Nat) : List Itm → Int
  | [] => 0
  | x :: t => (if x.1 = key then 0 else if scell seed x.1 (i : Int) (cols : Int) = scell seed key (i : Int) (cols : Int) then max x.2 (-x.2) else 0) + othS seed key cols i t
/-- What is told of a key in row i. -/
def told (seed : Int) (key : ByteArray) (cols i : Nat) (l : List Itm) : Int := ssign seed key (i : Int) * dlt seed l i cols (scell seed key (i : Int) (cols : Int)).toNat
theorem told_near (seed : Int) (key : ByteArray) (cols i : Nat) (hc : 1 ≤ cols) : ∀ l : List Itm, ownS key l - othS seed key cols i l ≤ told seed key cols i l ∧ told seed key cols i l ≤ ownS key l + othS seed key cols i l
  | [] => by simp [told, ownS, othS, dlt]
  | x :: t => by
    have ih := told_near seed key cols i hc t
    have cx := hcell_range (hrow seed (2 * (i : Int))) x.1 (cols : Int) (by omega)
    have ck := hcell_range (hrow seed (2 * (i : Int))) key (cols : Int) (by omega)
    have e1 : told seed key cols i (x :: t) = ssign seed key (i : Int) * one1 seed x.1 x.2 i cols (scell seed key (i : Int) (cols : Int)).toNat + told seed key cols i t := by
      simp only [told, dlt, Int.mul_add]
    rw [e1]
    simp only [ownS, othS, one1]
    by_cases e : x.1 = key
    · rw [if_pos e, if_pos e, if_pos (by rw [e]), e, ← Int.mul_assoc, ssign_sq, Int.one_mul]
      omega
    · rw [if_neg e, if_neg e]
      by_cases c : scell seed x.1 (i : Int) (cols : Int) = scell seed key (i : Int) (cols : Int)
      · rw [if_pos c, if_pos (by rw [c])]
        rcases ssign_or seed key (i : Int) with h1 | h1 <;> rcases ssign_or seed x.1 (i : Int) with h2 | h2 <;> rw [h1, h2] <;> omega
      · have cx1 : 0 ≤ scell seed x.1 (i : Int) (cols : Int) := cx.1
        have ck1 : 0 ≤ scell seed key (i : Int) (cols : Int) := ck.1
        rw [if_neg c, if_neg (by omega)]
        omega
theorem getL_zero {seed : Int} {key : ByteArray} {rows : List (List Int)} {cols : Nat} (l : List Itm) (hz : Within 0 rows) (hr : ∀ r ∈ rows, r.length = cols) (hc : 1 ≤ cols) (i : Nat) (h : i < rows.length) (h2 : i < (getL seed key (addAll seed rows l)).length) :
    (getL seed key (addAll seed rows l))[i] = told seed key cols i l := by
  have hl := hr _ (List.getElem_mem h)
  have ck := hcell_range (hrow seed (2 * (i : Int))) key (cols : Int) (by omega)
  have ck1 : 0 ≤ scell seed key (i : Int) (cols : Int) := ck.1
  have ck2 : scell seed key (i : Int) (cols : Int) < cols := ck.2
  have hq : (scell seed key (i : Int) (cols : Int)).toNat < rows[i].length := by rw [hl]; omega
  have hz2 := hz _ (List.getElem_mem h) _ (List.getElem_mem hq)
  have h3 : i < (addAll seed rows l).length := by rw [addAll_len]; exact h
  have e : (addAll seed rows l)[i] = rows[i].mapIdx fun q v => v + dlt seed l i rows[i].length q := by
    simp only [addAll_shift]
    exact shiftR_at _ _ i h _
  simp only [getL, List.getElem_mapIdx, e, told, List.length_mapIdx, hl]
  rw [List.getD_eq_getElem?_getD, List.getElem?_mapIdx, List.getElem?_eq_getElem hq]
  simp only [Option.map_some, Option.getD_some]
  rw [show rows[i][(scell seed key (i : Int) (cols : Int)).toNat] = 0 by omega, Int.zero_add]
end Go.Proofs.YtngpmpmhpggpgaaDoorF
end

section
/- One level to which keys came, one after the other: plain facts. -/
set_option maxRecDepth 8192
set_option maxHeartbeats 2000000
namespace Go.Proofs.YtngpmpmhpggpgaaDoorF
open Go Go.Proofs.Vm

theorem nodup_le : ∀ {a b : List ByteArray}, a.Nodup → (∀ x ∈ a, x ∈ b) → a.length ≤ b.length
  | [], b, _, _ => Nat.zero_le _
  | x :: a, b, h, hs => by
    have h' := List.nodup_cons.1 h
    have hx := hs x List.mem_cons_self
    have := nodup_le (b := b.erase x) h'.2 fun y hy => by
      have hne : y ≠ x := by rintro rfl; exact h'.1 hy
      exact (List.mem_erase_of_ne hne).2 (hs y (List.mem_cons_of_mem _ hy))
    rw [List.length_erase_of_mem hx] at this
    have hp := List.length_pos_of_mem hx
    simp only [List.length_cons]
    omega
theorem mem_notK {k : ByteArray} {m : List Itm} {y : Itm} : y ∈ notK k m ↔ y ∈ m ∧ y.1 ≠ k := by
  unfold notK
  rw [List.mem_filter, decide_eq_true_iff]
/-- An offer, where there is room for all that come. -/
theorem offer_in {room : Int} {m : List Itm} {k : ByteArray} {c : Int} {D : List ByteArray} (hk : Keys m) (hDl : (D.length : Int) ≤ room) (hm : ∀ y ∈ m, y.1 ∈ D) (hkD : k ∈ D) : refOffer room m k c = (insL (k, c) (notK k m), true) := by
  unfold refOffer
  by_cases h : ∃ x ∈ m, x.1 = k
  · obtain ⟨x, hx, e⟩ := h
    rw [if_pos (.inl (notK_lt hx e))]
  · have hn : notK k m = m := notK_self fun x hx e => h ⟨x, hx, e⟩
    have : (k :: m.map (·.1)).length ≤ D.length := nodup_le (List.nodup_cons.2 ⟨fun hh => by
      obtain ⟨x, hx, e⟩ := List.mem_map.1 hh
      exact h ⟨x, hx, e⟩, hk⟩) fun y hy => by
        rcases List.mem_cons.1 hy with rfl | hy
        · exact hkD
        · obtain ⟨x, hx, rfl⟩ := List.mem_map.1 hy
          exact hm x hx
    simp only [List.length_cons, List.length_map] at this
    rw [if_pos (.inr (by omega)), hn]
theorem mem_insL {x y : Itm} {m : List Itm} : y ∈ insL x m ↔ y = x ∨ y ∈ m := by rw [(insL_perm x m).mem_iff, List.mem_cons]
theorem offer_mem {room : Int} {m : List Itm} {k : ByteArray} {c : Int} {y : Itm} (h : y ∈ (refOffer room m k c).1) : y = (k, c) ∨ y ∈ m := by
  unfold refOffer at h
  split at h
  · rcases mem_insL.1 h with h | h
    · exact .inl h
    · exact .inr (mem_notK.1 h).1
  · split at h
    · rcases mem_insL.1 h with h | h
      · exact .inl h
      · exact .inr ((List.dropLast_sublist m).subset h)
    · exact .inr h

def lvZ (seed : Int) (rows cols : Nat) : Lv := (seed, List.replicate rows (List.replicate cols 0), [])
/-- A level to which keys came. -/
def lvFed (room : Int) (l : Lv) (ks : List ByteArray) : Lv := ks.foldl (fun l k => updL room k l) l
theorem lvFed_snoc (room : Int) (l : Lv) (ks : List ByteArray) (k : ByteArray) : lvFed room l (ks ++ [k]) = updL room k (lvFed room l ks) := by simp [lvFed]
def ones (ks : List ByteArray) : List Itm := ks.map fun k => (k, (1 : Int))
theorem addAll_snoc (seed : Int) (R : List (List Int)) (a : List Itm) (x : Itm) : addAll seed R (a ++ [x]) = addRows seed x.1 x.2 (addAll seed R a) := by simp [addAll]
theorem ones_snoc (ks : List ByteArray) (k : ByteArray) : ones (ks ++ [k]) = ones ks ++ [(k, 1)] := by simp [ones]
theorem ownS_ones (key : ByteArray) : ∀ ks : List ByteArray, ownS key (ones ks) = (ks.count key : Int)
  | [] => by simp [ones, ownS]
  | k :: r => by
    have ih := ownS_ones key r
    simp only [ones, List.map_cons, ownS] at ih ⊢
    rw [ih, List.count_cons]
    by_cases h : k = key <;> simp [h] <;> omega
theorem othS_ones {seed : Int} {key : ByteArray} {cols i : Nat} : ∀ {ks : List ByteArray}, (∀ k ∈ ks, k ≠ key → scell seed k (i : Int) (cols : Int) ≠ scell seed key (i : Int) (cols : Int)) → othS seed key cols i (ones ks) = 0
  | [], _ => rfl
  | k :: r, h => by
    have ih := othS_ones (ks := r) fun x hx => h x (List.mem_cons_of_mem _ hx)
    simp only [ones, List.map_cons, othS] at ih ⊢
    rw [ih]
    by_cases e : k = key
    · rw [if_pos e]; rfl
    · rw [if_neg e, if_neg (h k List.mem_cons_self e)]; rfl
/-- What a level is, that was fed. -/
structure LFed (room seed : Int) (rows cols : Nat) (ks : List ByteArray) (l : Lv) : Prop where
  fseed : l.1 = seed
  frows : l.2.1 = addAll seed (List.replicate rows (List.replicate cols 0)) (ones ks)
  ok : OkR l.2.1
  wi : Within (ks.length : Int) l.2.1
  len : l.2.1.length = rows
  hd : (l.2.1.headD []).length = cols
  srt : Srt l.2.2
  keys : Keys l.2.2
  froom : (l.2.2.length : Int) ≤ room
  seen : ∀ y ∈ l.2.2, y.1 ∈ ks
theorem fit_of {room seed : Int} {rows cols : Nat} {ks : List ByteArray} {l : Lv} (F : LFed room seed rows cols ks l) (hk : ks.length < 1000000) (key : ByteArray) : fitL key l :=
  addRows_fits (N := 1) F.wi F.ok (by omega) (by omega)
theorem LFed.step {room seed : Int} {rows cols : Nat} {ks : List ByteArray} {l : Lv} (F : LFed room seed rows cols ks l) (hr : 1 ≤ room) (hk : ks.length < 1000000) (k : ByteArray) : LFed room seed rows cols (ks ++ [k]) (updL room k l) := by
  have hT := offer_top F.srt F.keys F.froom hr k (med (getL l.1 k (addL l k)))
  have ho := addRows_ok (N := 1) F.wi F.ok (seed := l.1) (key := k) (n := 1) (by omega) (by omega)
  have h0 : 0 < l.2.1.length := by have := F.ok.odd; omega
  have e1 : ∀ m : List (List Int), (h : 0 < m.length) → m.headD [] = m[0] := fun m h => by cases m with | nil => simp at h | cons a t => rfl
  refine ⟨F.fseed, ?_, ho, ?_, ?_, ?_, hT.1, hT.2.1, hT.2.2, fun y hy => ?_⟩
  · show addRows l.1 k 1 l.2.1 = _
    rw [ones_snoc, addAll_snoc, ← F.frows, F.fseed]
  · have := addRows_within (N := 1) F.wi F.ok (seed := l.1) (key := k) (n := 1) (by omega)
    show Within ((ks ++ [k]).length : Int) (addRows l.1 k 1 l.2.1)
    simpa using this
  · show (addRows l.1 k 1 l.2.1).length = _
    rw [addRows_len, F.len]
  · show ((addRows l.1 k 1 l.2.1).headD []).length = _
    rw [e1 _ (by rw [addRows_len]; exact h0), addRows_at 0 h0, ← F.hd, e1 _ h0]
    simp [updRow]
  · rcases offer_mem hy with rfl | hy
    · simp
    · exact List.mem_append.2 (.inl (F.seen y hy))
theorem LFed.zero {room seed rows cols : Int} (h : newOk rows cols) (hr : 1 ≤ room) : LFed room seed rows.toNat cols.toNat [] (lvZ seed rows.toNat cols.toNat) := by
  have h1 := h.1
  refine ⟨rfl, rfl, new_ok h, (by show Within (([] : List ByteArray).length : Int) (List.replicate rows.toNat (List.replicate cols.toNat 0)); simpa using new_within), by simp [lvZ], ?_, List.Pairwise.nil, List.nodup_nil, by simp [lvZ]; omega, fun y hy => by simp [lvZ] at hy⟩
  obtain ⟨k, hk⟩ : ∃ k, rows.toNat = k + 1 := ⟨rows.toNat - 1, by omega⟩
  simp [lvZ, hk, List.replicate_succ]
theorem lvFed_is {room seed rows cols : Int} (h : newOk rows cols) (hr : 1 ≤ room) (ks : List ByteArray) (hk : ks.length < 1000000) : LFed room seed rows.toNat cols.toNat ks (lvFed room (lvZ seed rows.toNat cols.toNat) ks) := by
  obtain ⟨n, hn⟩ : ∃ n, n = ks.length := ⟨_, rfl⟩
  induction n generalizing ks with
  | zero =>
    have : ks = [] := List.length_eq_zero_iff.1 hn.symm
    subst this
    exact .zero h hr
  | succ n ih =>
    have hne : ks ≠ [] := by rintro rfl; simp at hn
    rw [← List.dropLast_concat_getLast hne] at hk ⊢
    rw [lvFed_snoc]
    simp only [List.length_append, List.length_singleton] at hk
    exact (ih ks.dropLast (by omega) (by rw [List.length_dropLast]; omega)).step hr (by omega) _
/-- Where there is room for all, all that came is there. -/
theorem lvFed_all {room seed rows cols : Int} (h : newOk rows cols) (hr : 1 ≤ room) {D : List ByteArray} (hD : (D.length : Int) ≤ room) : ∀ (n : Nat) (ks : List ByteArray), ks.length = n → n < 1000000 → (∀ k ∈ ks, k ∈ D) → ∀ k ∈ ks, ∃ c, (k, c) ∈ (lvFed room (lvZ seed rows.toNat cols.toNat) ks).2.2
  | 0, ks, hn, _, _, k, hk => by
    have : ks = [] := List.length_eq_zero_iff.1 hn
    subst this
    cases hk
  | n + 1, ks, hn, hl, hs, k, hk => by
    have hne : ks ≠ [] := by rintro rfl; simp at hn
    obtain ⟨a, b, rfl⟩ : ∃ a b, ks = a ++ [b] := ⟨_, _, (List.dropLast_concat_getLast hne).symm⟩
    simp only [List.length_append, List.length_singleton] at hn
    have F := lvFed_is (room := room) (seed := seed) h hr a (by omega)
    have ih := lvFed_all (seed := seed) h hr hD n a (by omega) (by omega) fun x hx => hs x (List.mem_append.2 (.inl hx))
    rw [lvFed_snoc]
    have ho := offer_in (c := med (getL (lvFed room (lvZ seed rows.toNat cols.toNat) a).1 b (addL (lvFed room (lvZ seed rows.toNat cols.toNat) a) b))) F.keys hD (fun y hy => hs _ (List.mem_append.2 (.inl (F.seen y hy)))) (hs b (by simp))
    show ∃ c, (k, c) ∈ (refOffer room _ b _).1
    rw [ho]
    by_cases e : k = b
    · exact ⟨_, mem_insL.2 (.inl (by rw [e]))⟩
    · rcases List.mem_append.1 hk with h1 | h1
      · obtain ⟨c, hc⟩ := ih k h1
        exact ⟨c, mem_insL.2 (.inr (mem_notK.2 ⟨hc, e⟩))⟩
      · exact absurd (List.mem_singleton.1 h1) e
/-- Alone in more than half of the rows: told as it came. -/
def alone (seed : Int) (rows cols : Nat) (D : List ByteArray) (key : ByteArray) : Prop := rows < 2 * (List.range rows).countP fun (i : Nat) => decide (∀ k ∈ D, k ≠ key → scell seed k (i : Int) (cols : Int) ≠ scell seed key (i : Int) (cols : Int))
theorem get_alone {room seed : Int} {rows cols : Nat} {ks : List ByteArray} {l : Lv} (F : LFed room seed rows cols ks l) {D : List ByteArray} (hs : ∀ k ∈ ks, k ∈ D) {key : ByteArray} (ha : alone seed rows cols D key) : med (getL l.1 key l.2.1) = (ks.count key : Int) := by
  have hlen : (getL l.1 key l.2.1).length = rows := by rw [getL_len, F.len]
  have h0 : 0 < rows := by have := F.ok.odd; rw [F.len] at this; omega
  have hne : getL l.1 key l.2.1 ≠ [] := by intro e; rw [e] at hlen; simp at hlen; omega
  have hodd : (getL l.1 key l.2.1).length % 2 = 1 := by rw [hlen, ← F.len]; exact F.ok.odd
  have hc1 : 1 ≤ cols := by
    have h1 := F.hd
    have e1 : l.2.1.headD [] ∈ l.2.1 := by
      have := F.ok.ne
      cases hh : l.2.1 with | nil => exact absurd hh this | cons a t => simp
    have := (F.ok.row _ e1).1
    omega
  have hall : ∀ i, ∀ h : i < (getL l.1 key l.2.1).length, (∀ k ∈ D, k ≠ key → scell seed k (i : Int) (cols : Int) ≠ scell seed key (i : Int) (cols : Int)) → (getL l.1 key l.2.1)[i] = (ks.count key : Int) := fun i h hi => by
    have hz : Within 0 (List.replicate rows (List.replicate cols (0 : Int))) := fun r hr v hv => by
      rw [List.eq_of_mem_replicate hr] at hv
      rw [List.eq_of_mem_replicate hv]; omega
    have h2 : i < (getL seed key (addAll seed (List.replicate rows (List.replicate cols 0)) (ones ks))).length := by rw [← F.frows, ← F.fseed]; exact h
    have hg := getL_zero (seed := seed) (key := key) (ones ks) hz (fun r hr => by rw [List.eq_of_mem_replicate hr]; simp) hc1 i (by rw [List.length_replicate]; omega) h2
    have hn := told_near seed key cols i hc1 (ones ks)
    have ho := othS_ones (seed := seed) (key := key) (cols := cols) (i := i) (ks := ks) fun k hk => hi k (hs k hk)
    rw [ho, ownS_ones] at hn
    have e : (getL l.1 key l.2.1)[i] = (getL seed key (addAll seed (List.replicate rows (List.replicate cols 0)) (ones ks)))[i] := by
      simp only [F.frows, F.fseed]
    rw [e, hg]
    omega
  have hcnt : ∀ p : Int → Bool, p (ks.count key : Int) = true → (getL l.1 key l.2.1).length / 2 < (getL l.1 key l.2.1).countP p := fun p hp => by
    have : (List.range rows).countP (fun (i : Nat) => decide (∀ k ∈ D, k ≠ key → scell seed k (i : Int) (cols : Int) ≠ scell seed key (i : Int) (cols : Int))) ≤ (getL l.1 key l.2.1).countP p := by
      have e : getL l.1 key l.2.1 = (List.range rows).map fun i => (getL l.1 key l.2.1).getD i 0 := by
        apply List.ext_getElem
        · simp [hlen]
        · intro i h1 h2
          simp [List.getD_eq_getElem?_getD, h1]
      rw [e, List.countP_map]
      refine List.countP_mono_left fun i hi hd => ?_
      have hi' : i < (getL l.1 key l.2.1).length := by rw [hlen]; exact List.mem_range.1 hi
      have := hall i hi' (of_decide_eq_true hd)
      show p ((getL l.1 key l.2.1).getD i 0) = true
      rw [List.getD_eq_getElem?_getD, List.getElem?_eq_getElem hi', this]
      exact hp
    unfold alone at ha
    omega
  have g1 := med_ge hne (ks.count key : Int) (hcnt _ (by simp))
  have g2 := med_le hne hodd (ks.count key : Int) (hcnt _ (by simp))
  omega
theorem lvFed_alone {room seed rows cols : Int} (h : newOk rows cols) (hr : 1 ≤ room) {D : List ByteArray} (hD : (D.length : Int) ≤ room) (ha : ∀ k ∈ D, alone seed rows.toNat cols.toNat D k) : ∀ (n : Nat) (ks : List ByteArray), ks.length = n → n < 1000000 → (∀ k ∈ ks, k ∈ D) → ∀ k ∈ ks, (k, (ks.count k : Int)) ∈ (lvFed room (lvZ seed rows.toNat cols.toNat) ks).2.2
  | 0, ks, hn, _, _, k, hk => by
    have : ks = [] := List.length_eq_zero_iff.1 hn
    subst this
    cases hk
  | n + 1, ks, hn, hl, hs, k, hk => by
    have hne : ks ≠ [] := by rintro rfl; simp at hn
    obtain ⟨a, b, rfl⟩ : ∃ a b, ks = a ++ [b] := ⟨_, _, (List.dropLast_concat_getLast hne).symm⟩
    simp only [List.length_append, List.length_singleton] at hn
    have F := lvFed_is (room := room) (seed := seed) h hr a (by omega)
    have F2 := F.step hr (by omega) b
    have ih := lvFed_alone (seed := seed) h hr hD ha n a (by omega) (by omega) fun x hx => hs x (List.mem_append.2 (.inl hx))
    rw [lvFed_snoc]
    have hg := get_alone F2 hs (ha b (hs b (by simp)))
    have ho := offer_in (c := med (getL (lvFed room (lvZ seed rows.toNat cols.toNat) a).1 b (addL (lvFed room (lvZ seed rows.toNat cols.toNat) a) b))) F.keys hD (fun y hy => hs _ (List.mem_append.2 (.inl (F.seen y hy)))) (hs b (by simp))
    show _ ∈ (refOffer room _ b _).1
    rw [ho]
    by_cases e : k = b
    · refine mem_insL.2 (.inl ?_)
      rw [e]
      exact congrArg (Prod.mk b) hg.symm
    · rcases List.mem_append.1 hk with h1 | h1
      · refine mem_insL.2 (.inr (mem_notK.2 ⟨?_, e⟩))
        have : (a ++ [b]).count k = a.count k := by
          rw [List.count_append, List.count_singleton]
          simp [Ne.symm e]
        rw [this]
        exact ih k h1
      · exact absurd (List.mem_singleton.1 h1) e
end Go.Proofs.YtngpmpmhpggpgaaDoorF
end

section
/- Keys with how often they came, and the sums over levels: plain facts. -/
set_option maxRecDepth 8192
set_option maxHeartbeats 2000000
namespace Go.Proofs.YtngpmpmhpggpgaaDoorF
open Go Go.Proofs.Vm

/-- Each key that came, once, with how often it came. -/
structure AllOk (ks : List ByteArray) (all : List Itm) : Prop where
  keys : Keys all
  mem : ∀ y : Itm, y ∈ all ↔ y.1 ∈ ks ∧ y.2 = (ks.count y.1 : Int)
theorem allOk_nil : AllOk [] [] := ⟨List.nodup_nil, fun y => by simp⟩
theorem AllOk.len {ks : List ByteArray} {all : List Itm} (h : AllOk ks all) : all.length ≤ ks.length := by
  have := nodup_le (a := all.map fun x : Itm => x.1) (b := ks) h.keys fun x hx => by
    obtain ⟨y, hy, rfl⟩ := List.mem_map.1 hx
    exact ((h.mem y).1 hy).1
  simpa using this
theorem AllOk.add {ks : List ByteArray} {all : List Itm} (h : AllOk ks all) {k : ByteArray} (hk : ∀ i, ∀ hi : i < all.length, all[i].1 ≠ k) : AllOk (ks ++ [k]) (all ++ [(k, 1)]) := by
  have hno : k ∉ ks := fun hm => by
    obtain ⟨i, hi, e⟩ := List.getElem_of_mem ((h.mem (k, (ks.count k : Int))).2 ⟨hm, rfl⟩)
    exact hk i hi (by rw [e])
  refine ⟨?_, fun y => ?_⟩
  · unfold Keys
    rw [List.map_append, List.nodup_append]
    refine ⟨h.keys, by simp, fun a ha b hb => ?_⟩
    simp only [List.map_cons, List.map_nil, List.mem_singleton] at hb
    subst hb
    rintro rfl
    obtain ⟨y, hy, e⟩ := List.mem_map.1 ha
    exact hno (e ▸ ((h.mem y).1 hy).1)
  · rw [List.mem_append, h.mem, List.mem_singleton, List.count_append, List.count_singleton, List.mem_append, List.mem_singleton]
    obtain ⟨a, c⟩ := y
    simp only [Prod.mk.injEq]
    by_cases e : a = k
    · subst e
      have : ks.count a = 0 := List.count_eq_zero.2 hno
      simp [this, hno]
    · simp [e, Ne.symm e]
theorem AllOk.inc {ks : List ByteArray} {all : List Itm} (h : AllOk ks all) {k : ByteArray} {i : Nat} (hi : i < all.length) (hk : all[i].1 = k) : AllOk (ks ++ [k]) (all.set i (k, all[i].2 + 1)) := by
  have hin := (h.mem all[i]).1 (List.getElem_mem hi)
  rw [hk] at hin
  refine ⟨?_, fun y => ?_⟩
  · have : (all.set i (k, all[i].2 + 1)).map (·.1) = all.map (·.1) := by
      rw [List.map_set]
      apply List.ext_getElem
      · simp
      · intro j h1 h2
        rw [List.getElem_set]
        split
        · rename_i e; subst e; simp [hk]
        · rfl
    unfold Keys
    rw [this]
    exact h.keys
  · have hm : y ∈ all.set i (k, all[i].2 + 1) ↔ y = (k, all[i].2 + 1) ∨ (y.1 ≠ k ∧ y ∈ all) := by
      constructor
      · intro hy
        obtain ⟨j, hj, rfl⟩ := List.getElem_of_mem hy
        rw [List.length_set] at hj
        rw [List.getElem_set]
        split
        · exact .inl rfl
        · rename_i hne
          refine .inr ⟨fun e => ?_, List.getElem_mem hj⟩
          rcases Nat.lt_or_gt_of_ne hne with g | g
          · exact keys_iff.1 h.keys i j hj g (by rw [hk, e])
          · exact keys_iff.1 h.keys j i hi g (by rw [hk, e])
      · rintro (rfl | ⟨h1, h2⟩)
        · exact List.mem_iff_getElem.2 ⟨i, by simpa using hi, by simp⟩
        · obtain ⟨j, hj, rfl⟩ := List.getElem_of_mem h2
          refine List.mem_iff_getElem.2 ⟨j, by simpa using hj, ?_⟩
          rw [List.getElem_set, if_neg]
          rintro rfl
          exact h1 hk
    rw [hm, h.mem, List.count_append, List.count_singleton, List.mem_append, List.mem_singleton]
    obtain ⟨a, c⟩ := y
    simp only [Prod.mk.injEq]
    by_cases e : a = k
    · subst e
      simp only [true_and, ne_eq, not_true, false_and, or_false, or_true, beq_self_eq_true, if_true]
      rw [hin.2]
      constructor <;> intro h <;> omega
    · simp [e, Ne.symm e]

theorem perm_of_mem {a b : List Itm} (ha : Keys a) (hb : Keys b) (h : ∀ y, y ∈ a ↔ y ∈ b) : a.Perm b := by
  have n1 : a.Nodup := (List.pairwise_map.1 ha).imp fun hne e => hne (by rw [e])
  have n2 : b.Nodup := (List.pairwise_map.1 hb).imp fun hne e => hne (by rw [e])
  exact (List.perm_ext_iff_of_nodup n1 n2).2 fun y => h y

/-! Sums over the levels. -/
/-- What one level adds. -/
def lvSum (kind : Int) (last : Bool) (lev : ByteArray → Int) (j : Nat) (top : List Itm) : Int := (top.map fun x => if last = false ∧ (j : Int) < lev x.1 then - cntI kind x.2 else cntI kind x.2).sum
theorem lvSum_nil (kind : Int) (last : Bool) (lev : ByteArray → Int) (j : Nat) : lvSum kind last lev j [] = 0 := rfl
theorem lvSum_take (kind : Int) (last : Bool) (lev : ByteArray → Int) (j : Nat) {top : List Itm} {i : Nat} (hi : i < top.length) :
    lvSum kind last lev j (top.take (i + 1)) = lvSum kind last lev j (top.take i) + (if last = false ∧ (j : Int) < lev top[i].1 then - cntI kind top[i].2 else cntI kind top[i].2) := by
  unfold lvSum
  rw [List.take_add_one, List.getElem?_eq_getElem hi]
  simp only [Option.toList_some, List.map_append, List.map_cons, List.map_nil, List.sum_append, List.sum_cons, List.sum_nil, Int.add_zero]
theorem lvSum_range (kind : Int) (last : Bool) (lev : ByteArray → Int) (j : Nat) : ∀ top : List Itm, -(top.length * 1443109011456) ≤ lvSum kind last lev j top ∧ lvSum kind last lev j top ≤ top.length * 1443109011456
  | [] => by simp [lvSum]
  | x :: r => by
    have ih := lvSum_range kind last lev j r
    have hc := cntI_range kind x.2
    unfold lvSum at *
    simp only [List.map_cons, List.sum_cons, List.length_cons]
    split <;> omega
/-- The sum over the last levels. -/
def uSumD (s : Us) (kind : Int) : Nat → Int
  | 0 => 0
  | d + 1 => 2 * uSumD s kind d + lvSum kind (decide (d = 0)) (uLev s) (s.2.2.length - 1 - d) (s.2.2.getD (s.2.2.length - 1 - d) (0, [], [])).2.2
theorem uSumD_range {s : Us} (h : ∀ l ∈ s.2.2, l.2.2.length ≤ 64) (kind : Int) : ∀ d, -((2 ^ d - 1 : Nat) * 92358976733184) ≤ uSumD s kind d ∧ uSumD s kind d ≤ (2 ^ d - 1 : Nat) * 92358976733184
  | 0 => by simp [uSumD]
  | d + 1 => by
    have ih := uSumD_range h kind d
    have hl := lvSum_range kind (decide (d = 0)) (uLev s) (s.2.2.length - 1 - d) (s.2.2.getD (s.2.2.length - 1 - d) (0, [], [])).2.2
    have h64 : (s.2.2.getD (s.2.2.length - 1 - d) (0, [], [])).2.2.length ≤ 64 := by
      rw [List.getD_eq_getElem?_getD]
      cases hg : s.2.2[s.2.2.length - 1 - d]? with
      | none => simp
      | some l => exact h l (List.mem_of_getElem? hg)
    have hp : 0 < 2 ^ d := Nat.pow_pos (by decide)
    have e : 2 ^ (d + 1) = 2 ^ d * 2 := Nat.pow_succ ..
    unfold uSumD
    rw [e]
    generalize lvSum kind (decide (d = 0)) (uLev s) (s.2.2.length - 1 - d) (s.2.2.getD (s.2.2.length - 1 - d) (0, [], [])).2.2 = q at *
    generalize (s.2.2.getD (s.2.2.length - 1 - d) (0, [], [])).2.2.length = m at *
    generalize uSumD s kind d = u at *
    generalize 2 ^ d = p at *
    omega
def cntSum (kind : Int) (all : List Itm) : Int := (all.map fun x => cntI kind x.2).sum
theorem cntSum_take (kind : Int) {all : List Itm} {i : Nat} (hi : i < all.length) : cntSum kind (all.take (i + 1)) = cntSum kind (all.take i) + cntI kind all[i].2 := by
  unfold cntSum
  rw [List.take_add_one, List.getElem?_eq_getElem hi]
  simp only [Option.toList_some, List.map_append, List.map_cons, List.map_nil, List.sum_append, List.sum_cons, List.sum_nil, Int.add_zero]
theorem cntSum_range (kind : Int) : ∀ all : List Itm, 0 ≤ cntSum kind all ∧ cntSum kind all ≤ all.length * 1443109011456
  | [] => by simp [cntSum]
  | x :: r => by
    have ih := cntSum_range kind r
    have hc := cntI_range kind x.2
    unfold cntSum at *
    simp only [List.map_cons, List.sum_cons, List.length_cons]
    omega
def fromL (lev : ByteArray → Int) (j : Int) (all : List Itm) : List Itm := all.filter fun x => decide (j ≤ lev x.1)
theorem sum_split (kind : Int) (lev : ByteArray → Int) (j : Nat) : ∀ all : List Itm, 2 * cntSum kind (fromL lev ((j : Int) + 1) all) + lvSum kind false lev j (fromL lev j all) = cntSum kind (fromL lev j all)
  | [] => by simp [cntSum, lvSum, fromL]
  | x :: r => by
    have ih := sum_split kind lev j r
    unfold fromL cntSum lvSum at *
    simp only [eq_self, true_and] at ih ⊢
    simp only [List.filter_cons]
    by_cases h1 : (j : Int) + 1 ≤ lev x.1
    · have h2 : (j : Int) ≤ lev x.1 := by omega
      have h3 : (j : Int) < lev x.1 := by omega
      simp only [h1, h2, h3, decide_true, if_true, List.map_cons, List.sum_cons]
      omega
    · by_cases h2 : (j : Int) ≤ lev x.1
      · have h3 : ¬ (j : Int) < lev x.1 := by omega
        simp only [h1, h2, h3, decide_true, decide_false, if_true, if_false, List.map_cons, List.sum_cons, Bool.false_eq_true]
        omega
      · simp only [h1, h2, decide_false, Bool.false_eq_true, if_false]
        exact ih
theorem lvSum_last (kind : Int) (lev : ByteArray → Int) (j : Nat) (all : List Itm) : lvSum kind true lev j all = cntSum kind all := by
  unfold lvSum cntSum
  simp
theorem perm_sum {a b : List Int} (h : a.Perm b) : a.sum = b.sum := by
  induction h with
  | nil => rfl
  | cons x _ ih => simp [ih]
  | swap x y l => simp only [List.sum_cons]; omega
  | trans _ _ h1 h2 => exact h1.trans h2
theorem lvSum_perm {a b : List Itm} (h : a.Perm b) (kind : Int) (last : Bool) (lev : ByteArray → Int) (j : Nat) : lvSum kind last lev j a = lvSum kind last lev j b := by
  unfold lvSum
  exact perm_sum (h.map _)
/-- All keys are among the items of each of their levels: the sum is that over all keys. -/
theorem sums_all {s : Us} {ks : List ByteArray} {all : List Itm} (hA : AllOk ks all) (hl : 1 ≤ s.2.2.length) (hk : ∀ j, ∀ h : j < s.2.2.length, Keys s.2.2[j].2.2) (hs : ∀ j, ∀ h : j < s.2.2.length, ∀ y ∈ s.2.2[j].2.2, y.1 ∈ ks ∧ (j : Int) ≤ uLev s y.1)
    (ht : ∀ x ∈ all, ∀ j, ∀ h : j < s.2.2.length, (j : Int) ≤ uLev s x.1 → x ∈ s.2.2[j].2.2) (kind : Int) : uSumD s kind s.2.2.length = cntSum kind all := by
  have hp : ∀ j, ∀ h : j < s.2.2.length, s.2.2[j].2.2.Perm (fromL (uLev s) j all) := fun j h => by
    have hkf : Keys (fromL (uLev s) j all) := ((List.filter_sublist (p := fun x : Itm => decide ((j : Int) ≤ uLev s x.1)) (l := all)).map fun x : Itm => x.1).nodup hA.keys
    refine perm_of_mem (hk j h) hkf fun y => ?_
    unfold fromL
    rw [List.mem_filter, decide_eq_true_iff]
    constructor
    · intro hy
      obtain ⟨h1, h2⟩ := hs j h y hy
      have hx : (y.1, (ks.count y.1 : Int)) ∈ all := (hA.mem _).2 ⟨h1, rfl⟩
      have hx2 := ht _ hx j h h2
      have : y = (y.1, (ks.count y.1 : Int)) := by
        obtain ⟨a, ha, ea⟩ := List.getElem_of_mem hy
        obtain ⟨b, hb, eb⟩ := List.getElem_of_mem hx2
        have hab : a = b := by
          rcases Nat.lt_trichotomy a b with g | g | g
          · exact absurd (by rw [ea, eb]) (keys_iff.1 (hk j h) a b hb g)
          · exact g
          · exact absurd (by rw [ea, eb]) (keys_iff.1 (hk j h) b a ha g)
        subst hab
        exact ea.symm.trans eb
      exact ⟨by rw [this]; exact hx, h2⟩
    · rintro ⟨h1, h2⟩
      exact ht y h1 j h h2
  have main : ∀ d, d ≤ s.2.2.length → uSumD s kind d = cntSum kind (fromL (uLev s) ((s.2.2.length - d : Nat) : Int) all) := by
    intro d
    induction d with
    | zero =>
      intro _
      have : fromL (uLev s) ((s.2.2.length - 0 : Nat) : Int) all = [] := by
        refine List.filter_eq_nil_iff.2 fun x hx => ?_
        have := uLev_range hl x.1
        simp only [decide_eq_true_iff]
        omega
      rw [this]; rfl
    | succ d ih =>
      intro h
      have hj : s.2.2.length - 1 - d < s.2.2.length := by omega
      have e1 : s.2.2.getD (s.2.2.length - 1 - d) (0, [], []) = s.2.2[s.2.2.length - 1 - d] := by rw [List.getD_eq_getElem?_getD, List.getElem?_eq_getElem hj]; rfl
      have e2 : s.2.2.length - (d + 1) = s.2.2.length - 1 - d := by omega
      unfold uSumD
      rw [e1, ih (by omega), lvSum_perm (hp _ hj), e2]
      by_cases hd : d = 0
      · subst hd
        have : fromL (uLev s) ((s.2.2.length - 0 : Nat) : Int) all = [] := by
          refine List.filter_eq_nil_iff.2 fun x hx => ?_
          have := uLev_range hl x.1
          simp only [decide_eq_true_iff]
          omega
        rw [this, decide_eq_true rfl, lvSum_last]
        simp [cntSum]
      · have hs := sum_split kind (uLev s) (s.2.2.length - 1 - d) all
        have e3 : ((s.2.2.length - d : Nat) : Int) = ((s.2.2.length - 1 - d : Nat) : Int) + 1 := by omega
        rw [decide_eq_false hd, e3]
        exact hs
  have h0 := main s.2.2.length (Nat.le_refl _)
  rw [h0, Nat.sub_self]
  have : fromL (uLev s) ((0 : Nat) : Int) all = all := List.filter_eq_self.2 fun x _ => decide_eq_true (by have := uLev_range hl x.1; omega)
  rw [this]
end Go.Proofs.YtngpmpmhpggpgaaDoorF
end

section
/- A sketch to which keys came: plain facts. -/
set_option maxRecDepth 8192
set_option maxHeartbeats 2000000
namespace Go.Proofs.YtngpmpmhpggpgaaDoorF
open Go Go.Proofs.Vm

/-- A sketch's numbers. -/
structure Sz where
  seed : Int
  levels : Int
  rows : Int
  cols : Int
  room : Int
structure ZOk (z : Sz) : Prop where
  s0 : 0 ≤ z.seed
  s1 : z.seed < 18446744073709551616
  l1 : 1 ≤ z.levels
  l2 : z.levels ≤ 16
  new : newOk z.rows z.cols
  r1 : 1 ≤ z.room
  r2 : z.room ≤ 64
def zLev (z : Sz) (k : ByteArray) : Int := hlev (hrow z.seed 0) k (z.levels - 1)
def zKeys (z : Sz) (j : Nat) (ks : List ByteArray) : List ByteArray := ks.filter fun k => decide ((j : Int) ≤ zLev z k)
def zL (z : Sz) (ks : List ByteArray) (j : Nat) : Lv := lvFed z.room (lvZ (hrow z.seed ((j : Int) + 1)) z.rows.toNat z.cols.toNat) (zKeys z j ks)
/-- The sketch to which these keys came. -/
def uFed (z : Sz) (ks : List ByteArray) : Us := (z.seed, z.room, (List.range z.levels.toNat).map (zL z ks))
theorem uFed_len (z : Sz) (ks : List ByteArray) : (uFed z ks).2.2.length = z.levels.toNat := by simp [uFed]
theorem uFed_at (z : Sz) (ks : List ByteArray) (j : Nat) (h : j < (uFed z ks).2.2.length) : (uFed z ks).2.2[j] = zL z ks j := by simp [uFed]
theorem uFed_lev {z : Sz} (h : ZOk z) (ks : List ByteArray) (k : ByteArray) : uLev (uFed z ks) k = zLev z k := by
  have := h.l1
  unfold uLev zLev
  rw [uFed_len]
  show hlev (hrow z.seed 0) k _ = _
  congr 1
  omega
theorem zKeys_len (z : Sz) (j : Nat) (ks : List ByteArray) : (zKeys z j ks).length ≤ ks.length := List.length_filter_le _ _
theorem zL_fed {z : Sz} (h : ZOk z) {ks : List ByteArray} (hk : ks.length < 1000000) (j : Nat) : LFed z.room (hrow z.seed ((j : Int) + 1)) z.rows.toNat z.cols.toNat (zKeys z j ks) (zL z ks j) :=
  lvFed_is h.new h.r1 _ (by have := zKeys_len z j ks; omega)
theorem uFed_add {z : Sz} (h : ZOk z) (ks : List ByteArray) (k : ByteArray) : uAdd (uFed z ks) k = uFed z (ks ++ [k]) := by
  have hr := uLev_range (s := uFed z ks) (by rw [uFed_len]; have := h.l1; omega) k
  rw [uFed_lev h] at hr
  unfold uAdd
  rw [uFed_lev h]
  refine Prod.ext rfl (Prod.ext rfl ?_)
  show lvTo (uFed z ks) k _ = (uFed z (ks ++ [k])).2.2
  apply List.ext_getElem
  · rw [lvTo_len, uFed_len, uFed_len]
  · intro j h1 h2
    have hj : j < (uFed z ks).2.2.length := by rw [lvTo_len] at h1; exact h1
    rw [uFed_at _ _ _ h2]
    simp only [lvTo, List.getElem_mapIdx]
    rw [uFed_at _ _ _ hj]
    unfold zL zKeys
    rw [List.filter_append]
    by_cases c : (j : Int) ≤ zLev z k
    · rw [if_pos (by omega)]
      simp only [List.filter_cons, c, decide_true, if_true, List.filter_nil]
      rw [lvFed_snoc]
      rfl
    · rw [if_neg (by omega)]
      simp [c]
theorem headD_at {l : List Lv} (h : 0 < l.length) (d : Lv) : l.headD d = l[0] := by cases l with | nil => simp at h | cons a t => rfl
theorem uFed_ok {z : Sz} (h : ZOk z) {ks : List ByteArray} (hk : ks.length < 1000000) : UOk (uFed z ks) := by
  have hl := uFed_len z ks
  have h0 : 0 < (uFed z ks).2.2.length := by rw [hl]; have := h.l1; omega
  have hf : fstR (uFed z ks) = (zL z ks 0).2.1 := by unfold fstR; rw [headD_at h0, uFed_at]
  have F0 := zL_fed h hk 0
  refine ⟨h.r1, h.r2, by omega, by rw [hl]; have := h.l2; omega, fun j hj => ?_⟩
  rw [uFed_at]
  have F := zL_fed h hk j
  exact ⟨F.ok, F.fseed, by rw [hf, F.len, F0.len], by rw [hf, F.hd, F0.hd], F.froom, F.srt, F.keys⟩
theorem uGood_of {s : Us} (h : UOk s) (h0 : 0 ≤ s.1) (h1 : s.1 < 18446744073709551616) : UGood s := by
  refine ⟨h0, h1, by have := h.l2; omega, fun l hl => ?_⟩
  obtain ⟨j, hj, rfl⟩ := List.getElem_of_mem hl
  have L := h.lv j hj
  have hr := hrow_range s.1 ((j : Int) + 1)
  refine ⟨by rw [L.seed]; exact hr.1, by rw [L.seed]; omega, by have := L.ok.l7; omega, fun r hr => by have := (L.ok.row r hr).2.1; omega, by have := L.room; have := h.r2; omega⟩
theorem uFed_good {z : Sz} (h : ZOk z) {ks : List ByteArray} (hk : ks.length < 1000000) : UGood (uFed z ks) := uGood_of (uFed_ok h hk) h.s0 h.s1
theorem uFed_fit {z : Sz} (h : ZOk z) {ks : List ByteArray} (hk : ks.length < 1000000) (k : ByteArray) : fitU (uFed z ks) k := fun j hj _ => by
  rw [uFed_at]
  exact fit_of (zL_fed h hk j) (by have := zKeys_len z j ks; omega) k
theorem uFed_seen {z : Sz} (h : ZOk z) {ks : List ByteArray} (hk : ks.length < 1000000) (j : Nat) (hj : j < (uFed z ks).2.2.length) : ∀ y ∈ ((uFed z ks).2.2[j]).2.2, y.1 ∈ ks ∧ (j : Int) ≤ uLev (uFed z ks) y.1 := fun y hy => by
  rw [uFed_at] at hy
  have := (zL_fed h hk j).seen y hy
  unfold zKeys at this
  rw [List.mem_filter, decide_eq_true_iff] at this
  rw [uFed_lev h]
  exact this
theorem uFed_get {z : Sz} (h : ZOk z) (h0 : 0 < (uFed z []).2.2.length) (k : ByteArray) : lvGet (uFed z []).2.2[0] k = 0 := by
  have F := zL_fed h (ks := []) (by simp) 0
  rw [uFed_at]
  unfold lvGet
  refine med_const ?_ 0 ?_
  · intro e
    have := congrArg List.length e
    rw [getL_len] at this
    have := F.ok.odd
    simp_all
  · intro x hx
    obtain ⟨i, hi, rfl⟩ := List.getElem_of_mem hx
    simp only [getL, List.getElem_mapIdx]
    have hi' : i < (zL z [] 0).2.1.length := by rw [getL_len] at hi; exact hi
    have : ∀ q, ((zL z [] 0).2.1[i]).getD q 0 = 0 := by
      intro q
      rw [List.getD_eq_getElem?_getD]
      cases hx : ((zL z [] 0).2.1[i])[q]? with
      | none => rfl
      | some v =>
        have := F.wi _ (List.getElem_mem hi') v (List.mem_of_getElem? hx)
        simp [zKeys] at this
        simp only [Option.getD_some]
        omega
    rw [this]; simp
/-- The first level counts every key that came; where none else came, it tells it. -/
theorem uFed_one {z : Sz} (h : ZOk z) (k : ByteArray) (n : Nat) (hn : n < 1000) (h0 : 0 < (uFed z (List.replicate n k)).2.2.length) : lvGet (uFed z (List.replicate n k)).2.2[0] k = n := by
  have F := zL_fed h (ks := List.replicate n k) (by simp; omega) 0
  rw [uFed_at]
  have hlev : ∀ x, (0 : Int) ≤ zLev z x := fun x => (hlev_range (hrow z.seed 0) x (z.levels - 1)).1
  have hz : zKeys z 0 (List.replicate n k) = List.replicate n k := List.filter_eq_self.2 fun x _ => decide_eq_true (by have := hlev x; omega)
  rw [hz] at F
  have := get_alone F (D := [k]) (key := k) (fun x hx => by rw [List.eq_of_mem_replicate hx]; simp) (by
    unfold alone
    have : (List.range z.rows.toNat).countP (fun (i : Nat) => decide (∀ x ∈ [k], x ≠ k → scell (hrow z.seed ((0 : Nat) + 1)) x (i : Int) (z.cols.toNat : Int) ≠ scell (hrow z.seed ((0 : Nat) + 1)) k (i : Int) (z.cols.toNat : Int))) = z.rows.toNat := by
      rw [List.countP_eq_length.2 (fun i _ => by simp), List.length_range]
    rw [this]
    have := h.new.1
    omega)
  unfold lvGet
  rw [this]
  simp
end Go.Proofs.YtngpmpmhpggpgaaDoorF
end

section
/- Sketches of levels: right, a key's level, what is told of a key. -/
set_option maxRecDepth 8192
set_option maxHeartbeats 4000000
namespace Go.Proofs.YtngpmpmhpggpgaaDoorF
open Go Go.Proofs.Vm

theorem okR_zero {rows : List (List Int)} (h : OkR rows) : ∃ r0, rows[0]? = some r0 ∧ rows.headD [] = r0 := by
  have := h.ne
  cases rows with
  | nil => exact absurd rfl this
  | cons a t => exact ⟨a, rfl, rfl⟩
theorem univ_Right {s : Us} (g : UGood s) : TV.pu 18 [.agg (cUs s)] = some (cB (uOk s)) := by
  refine run18 (by simp) ?_
  obtain ⟨R, hR⟩ : ∃ R, uOk s = R := ⟨_, rfl⟩
  rw [hR]
  obtain ⟨sd, room, lvs⟩ := s
  have hl : lvs.length < 4611686018427387904 := g.len
  have s0 : 0 ≤ sd := g.s0
  have s1 : sd < 18446744073709551616 := g.s1
  by_cases c1 : room < 1
  · have hRf : R = false := by rw [← hR]; exact uOk_no fun u => by have h : 1 ≤ room := u.r1; omega
    simp -implicitDefEqProofs [Tryd.f18, cUs, c1, hRf]
  by_cases c2 : 64 < room
  · have hRf : R = false := by rw [← hR]; exact uOk_no fun u => by have h : room ≤ 64 := u.r2; omega
    simp -implicitDefEqProofs [Tryd.f18, cUs, c1, c2, hRf]
  by_cases c3 : (lvs.length : Int) < 1
  · have hRf : R = false := by rw [← hR]; exact uOk_no fun u => by have h : 1 ≤ lvs.length := u.l1; omega
    simp -implicitDefEqProofs [Tryd.f18, cUs, c1, c2, c3, hRf]
  by_cases c4 : 16 < (lvs.length : Int)
  · have hRf : R = false := by rw [← hR]; exact uOk_no fun u => by have h : lvs.length ≤ 16 := u.l2; omega
    simp -implicitDefEqProofs [Tryd.f18, cUs, c1, c2, c3, c4, hRf]
  obtain ⟨f, hf⟩ : ∃ f, lvs[0]? = some f := ⟨_, List.getElem?_eq_getElem (show 0 < lvs.length by omega)⟩
  have hfst : fstR (sd, room, lvs) = f.2.1 := by
    unfold fstR
    have h0 : 0 < lvs.length := by omega
    show (lvs.headD _).2.1 = _
    rw [headD_at h0]
    rw [List.getElem?_eq_getElem h0] at hf
    rw [Option.some.inj hf]
  obtain ⟨fs, fr, ft⟩ := f
  simp -implicitDefEqProofs [Tryd.f18, cUs, cLv, cRows, c1, c2, c3, c4, hf, vstore, cellsOf?, Ent.wrO, wr, vmove, isNil]
  obtain ⟨I, hI⟩ : ∃ I : Nat → St → Prop, ∀ k s', I k s' ↔ (∃ e i L, s' = ⟨e, .opn [(cUs (sd, room, lvs)).map .c] false :: .opn [[.c (.v (.int .u64 fs)), .c (cRows fr)]] false :: L⟩ ∧ e 1 = .one (.ptr ⟨0, 0, 0, 1⟩) ∧ e 3 = .one (.ptr ⟨1, 0, 0, 1⟩) ∧ e 33 = .one (.c (.arr (lvs.map cLv))) ∧ e 34 = vI .i64 lvs.length ∧ e 35 = vI .i64 (i : Nat) ∧ (i + k = lvs.length) ∧ (∀ q, ∀ h : q < lvs.length, q < i → lvB (sd, room, lvs) q lvs[q] = true)) := ⟨_, fun _ _ => Iff.rfl⟩
  refine wpL_ind I ?_ lvs.length _ ((hI _ _).2 ⟨_, 0, _, (by first | rfl | (simp [cUs, cLv, cRows]; done) | (simp [cUs, cLv, cRows]; rfl) | (simp [cUs, cLv, cRows]; and_intros <;> rfl)), by simp, by simp, by simp, by simp, by simp, by omega, fun q _ h => absurd h (Nat.not_lt_zero _)⟩)
  intro k stI hstI
  obtain ⟨e, i, L, rfl, e1, e3, e33, e34, e35, hk, hall⟩ := (hI _ _).1 hstI
  by_cases c : i < lvs.length
  rotate_left
  · have hRt : R = true := by
      rw [← hR, uOk_iff]
      refine ⟨?_, ?_, ?_, ?_, fun j hj => lvB_iff.1 (hall j hj ?_)⟩
      · show 1 ≤ room; omega
      · show room ≤ 64; omega
      · show 1 ≤ lvs.length; omega
      · show lvs.length ≤ 16; omega
      · have : j < lvs.length := hj
        omega
    simp -implicitDefEqProofs [e34, e35, c, hRt]
  have w_i : IntKind.i64.wrap ((i : Int) + 1) = ((i + 1 : Nat) : Int) := by rw [w64_id (by omega) (by omega)]; omega
  obtain ⟨l, hli⟩ : ∃ l, lvs[i] = l := ⟨_, rfl⟩
  have hlg := g.lv lvs[i] (List.getElem_mem c)
  rw [hli] at hlg
  obtain ⟨ls, lr, lt⟩ := l
  obtain ⟨g0, g1, g2, g3, g4⟩ := hlg
  dsimp only at g0 g1 g2 g3 g4
  have hS := signed_Right (seed := ls) (rows := lr) (by omega) (fun x hx => by have := g3 x hx; omega)
  have bad : lvB (sd, room, lvs) i (ls, lr, lt) = false → R = false := fun h => by
    rw [← hR]
    exact uOk_lv (s := (sd, room, lvs)) c (by show lvB _ i lvs[i] = false; rw [hli]; exact h)
  simp only [cSk, cRows, cRow] at hS
  cases hok : okB lr with
  | false =>
    rw [hok] at hS
    have hRf := bad (by unfold lvB; simp [hok])
    simp -implicitDefEqProofs [e33, e34, e35, c, hli, cUs, cLv, cRows, cRow, hS, hRf, vstore, cellsOf?, Ent.wrO, wr]
  | true =>
  rw [hok] at hS
  obtain ⟨r0, hr0, hrd⟩ := okR_zero ((okB_iff lr).1 hok)
  have hfo : OkR fr := by
    by_cases h : i = 0
    · subst h
      rw [List.getElem?_eq_getElem c, hli] at hf
      cases hf
      exact (okB_iff _).1 hok
    · have h0 : 0 < lvs.length := by omega
      have := (lvB_iff.1 (hall 0 h0 (by omega))).ok
      rw [List.getElem?_eq_getElem h0] at hf
      rw [Option.some.inj hf] at this
      exact this
  obtain ⟨f0, hf0, hfd⟩ := okR_zero hfo
  have hRow := hash_Row (s := sd) (i := (i : Int) + 1) s0 s1 (by omega) (by omega)
  have hw : IntKind.i64.wrap ((i : Int) + 1) = (i : Int) + 1 := w64_id (by omega) (by omega)
  have hT := univ_top lt (by omega)
  simp only [cItms] at hT
  by_cases e1' : ls = hrow sd ((i : Int) + 1)
  rotate_left
  · have h1 : (ls != hrow sd ((i : Int) + 1)) = true := by simpa using e1'
    have hRf := bad (by unfold lvB; simp [e1'])
    simp -implicitDefEqProofs [e1, e33, e34, e35, c, hli, cUs, cLv, cRows, cRow, hS, hRow, hw, h1, hRf, vstore, cellsOf?, Ent.wrO, wr]
  have h1 : (ls != hrow sd ((i : Int) + 1)) = false := by simpa using e1'
  by_cases e2' : lr.length = fr.length
  rotate_left
  · have h2 : ((lr.length : Int) != (fr.length : Int)) = true := by simp; omega
    have hRf := bad (by unfold lvB; rw [hfst]; simp [e2'])
    simp -implicitDefEqProofs [e1, e3, e33, e34, e35, c, hli, cUs, cLv, cRows, cRow, hS, hRow, hw, h1, h2, hRf, vstore, cellsOf?, Ent.wrO, wr]
  have h2 : ((lr.length : Int) != (fr.length : Int)) = false := by simp; omega
  by_cases e3' : r0.length = f0.length
  rotate_left
  · have h3 : ((r0.length : Int) != (f0.length : Int)) = true := by simp; omega
    have hRf := bad (by unfold lvB; rw [hfst, hrd, hfd]; simp [e3'])
    simp -implicitDefEqProofs [e1, e3, e33, e34, e35, c, hli, cUs, cLv, cRows, cRow, hS, hRow, hw, h1, h2, hr0, hf0, h3, hRf, vstore, cellsOf?, Ent.wrO, wr]
  have h3 : ((r0.length : Int) != (f0.length : Int)) = false := by simp; omega
  by_cases e4' : room < (lt.length : Int)
  · have hRf := bad (by
      unfold lvB
      have : ¬ (lt.length : Int) ≤ room := by omega
      simp [this])
    simp -implicitDefEqProofs [e1, e3, e33, e34, e35, c, hli, cUs, cLv, cRows, cRow, cItms, hS, hRow, hw, h1, h2, hr0, hf0, h3, e4', hRf, vstore, cellsOf?, Ent.wrO, wr]
  cases hto : topB lt with
  | false =>
    rw [hto] at hT
    have hRf := bad (by unfold lvB; simp [hto])
    simp -implicitDefEqProofs [e1, e3, e33, e34, e35, c, hli, cUs, cLv, cRows, cRow, cItms, hS, hRow, hw, h1, h2, hr0, hf0, h3, e4', hT, hRf, vstore, cellsOf?, Ent.wrO, wr]
  | true =>
    rw [hto] at hT
    have hlv : lvB (sd, room, lvs) i (ls, lr, lt) = true := lvB_iff.2 ⟨(okB_iff _).1 hok, e1', by rw [hfst]; exact e2', by rw [hfst, hfd]; show (lr.headD []).length = _; rw [hrd]; exact e3', by show (lt.length : Int) ≤ room; omega, (topB_iff.1 hto).1, (topB_iff.1 hto).2⟩
    simp -implicitDefEqProofs [e1, e3, e33, e34, e35, c, hli, cUs, cLv, cRows, cRow, cItms, hS, hRow, hw, h1, h2, hr0, hf0, h3, e4', hT, vstore, cellsOf?, Ent.wrO, wr]
    exact ⟨k - 1, by omega, (hI _ _).2 ⟨_, i + 1, _, (by first | rfl | (simp [cUs, cLv, cRows, cRow, cItms, hw]; done) | (simp [cUs, cLv, cRows, cRow, cItms, hw]; rfl) | (simp [cUs, cLv, cRows, cRow, cItms, hw]; and_intros <;> rfl)), by simp [e1], by simp [e3], by simp [e33], by simp [e34], by simp, by omega, (fun q h hq => if e : q = i then by subst e; rw [hli]; exact hlv else hall q h (by omega))⟩⟩
theorem univ_level {s : Us} {key : ByteArray} {H : Hp} (g : UGood s) (hs : key.size ≤ 140737488351232) : TV.S 27 [.agg ((cUs s).map .c), vS key] H = some (vI .i64 (uLev s key), H ++ [.opn [(cUs s).map .c] false]) := by
  refine run27 (by simp) (by simp) ?_
  obtain ⟨sd, room, lvs⟩ := s
  have hl : lvs.length < 4611686018427387904 := g.len
  have s0 : 0 ≤ sd := g.s0
  have s1 : sd < 18446744073709551616 := g.s1
  have hRow := hash_Row (s := sd) (i := 0) s0 s1 (by omega) (by omega)
  have hr := hrow_range sd 0
  have hw : IntKind.i64.wrap ((lvs.length : Int) - 1) = (lvs.length : Int) - 1 := w64_id (by omega) (by omega)
  have hL := hash_Level (seed := hrow sd 0) (most := (lvs.length : Int) - 1) (s := key) hr.1 (by omega) hs (by omega) (by omega)
  simp -implicitDefEqProofs [Tryd.f27, cUs, hRow, hw, hL, uLev]
/-- The same, where the levels lie in own memory. -/
theorem univ_levelS {sd room : Int} {n d : Nat} {Ls : List (List CV)} {key : ByteArray} {H : Hp} (s0 : 0 ≤ sd) (s1 : sd < 18446744073709551616) (hd : H[d]? = some (.clo Ls false)) (hn : Ls.length = n) (hl : n < 4611686018427387904) (hs : key.size ≤ 140737488351232) :
    TV.S 27 [.agg [.c (.v (.int .u64 sd)), .c (.v (.int .i64 room)), .sl d 0 n n], vS key] H = some (vI .i64 (hlev (hrow sd 0) key ((n : Int) - 1)), H ++ [.opn [[.c (.v (.int .u64 sd)), .c (.v (.int .i64 room)), .sl d 0 n n]] false]) := by
  refine run27 (by simp) (by simp) ?_
  have hRow := hash_Row (s := sd) (i := 0) s0 s1 (by omega) (by omega)
  have hr := hrow_range sd 0
  have hw : IntKind.i64.wrap ((n : Int) - 1) = (n : Int) - 1 := w64_id (by omega) (by omega)
  have hL := hash_Level (seed := hrow sd 0) (most := (n : Int) - 1) (s := key) hr.1 (by omega) hs (by omega) (by omega)
  have hd2 : (H ++ [.opn [[.c (.v (.int .u64 sd)), .c (.v (.int .i64 room)), .sl d 0 n n]] false])[d]? = some (.clo Ls false) := by
    rw [List.getElem?_append_left (List.getElem?_eq_some_iff.1 hd).1]; exact hd
  simp -implicitDefEqProofs [Tryd.f27, hRow, hw, hL, hd2, hn]
theorem univ_Get {s : Us} {key : ByteArray} (g : UGood s) (hs : key.size ≤ 140737488351232) : TV.pu 16 [.agg (cUs s), cS key] = some (cI .i64 (if uOk s = true then lvGet (s.2.2.headD (0, [], [])) key else 0)) := by
  refine run16 (by simp) ?_
  have hR := univ_Right g
  obtain ⟨sd, room, lvs⟩ := s
  cases hok : uOk (sd, room, lvs) with
  | false =>
    rw [hok] at hR
    simp only [cUs] at hR
    simp -implicitDefEqProofs [Tryd.f16, cUs, hR]
  | true =>
    rw [hok] at hR
    have u := uOk_iff.1 hok
    have h0 : 0 < lvs.length := u.l1
    obtain ⟨f, hf⟩ : ∃ f, lvs[0] = f := ⟨_, rfl⟩
    have hf2 : lvs[0]? = some f := by rw [List.getElem?_eq_getElem h0, hf]
    have hhd : lvs.headD (0, [], []) = f := by rw [headD_at h0, hf]
    have hL : LvOk (sd, room, lvs) 0 f := by
      have := u.lv 0 h0
      rw [show (sd, room, lvs).2.2[0] = lvs[0] from rfl, hf] at this
      exact this
    have hlg := g.lv lvs[0] (List.getElem_mem h0)
    rw [hf] at hlg
    obtain ⟨fs, fr, ft⟩ := f
    have hG := signed_Get (seed := fs) (rows := fr) (key := key) hlg.1 hlg.2.1 hs hL.ok
    rw [if_pos rfl]
    show wpV _ _ _ _ (endK _ _ (cI .i64 (lvGet (lvs.headD (0, [], [])) key))) _
    rw [hhd]
    simp only [cUs, cSk, cRows] at hR hG
    simp -implicitDefEqProofs [Tryd.f16, cUs, cLv, cRows, hR, hf2, hG, lvGet]
end Go.Proofs.YtngpmpmhpggpgaaDoorF
end

section
/- A sketch of levels made; logarithms and counts. -/
set_option maxRecDepth 8192
set_option maxHeartbeats 4000000
namespace Go.Proofs.YtngpmpmhpggpgaaDoorF
open Go Go.Proofs.Vm

def zOkB (levels rows cols room : Int) : Prop := 1 ≤ levels ∧ levels ≤ 16 ∧ newOk rows cols ∧ 1 ≤ room ∧ room ≤ 64
theorem univ_New {z : Sz} (h : ZOk z) : TV.pu 14 [cI .u64 z.seed, cI .i64 z.levels, cI .i64 z.rows, cI .i64 z.cols, cI .i64 z.room] = some (.tup [(true, cUs (uFed z [])), (false, [.v (.int .i64 0)])]) := by
  refine run14 (by simp) ?_
  obtain ⟨sd, levels, rows, cols, room⟩ := z
  obtain ⟨s0, s1, l1, l2, hn, r1, r2⟩ := h
  dsimp only at s0 s1 l1 l2 hn r1 r2
  obtain ⟨n, rfl⟩ := Int.eq_ofNat_of_zero_le (show 0 ≤ levels by omega)
  have c1 : ¬ (n : Int) < 1 := by omega
  have c2 : ¬ 16 < (n : Int) := by omega
  have c3 : ¬ room < 1 := by omega
  have c4 : ¬ 64 < room := by omega
  obtain ⟨Rz, hRz⟩ : ∃ Rz, List.replicate rows.toNat (List.replicate cols.toNat (0 : Int)) = Rz := ⟨_, rfl⟩
  have hN := fun (s : Int) => signed_New (seed := s) hn
  simp only [hRz, cSk, cRows] at hN
  have hz : ∀ j : Nat, cLv (zL ⟨sd, n, rows, cols, room⟩ [] j) = [.v (.int .u64 (hrow sd ((j : Int) + 1))), .arr (Rz.map fun r => [cRow r]), .arr []] := fun j => by rw [← hRz]; rfl
  have hfin : cUs (uFed ⟨sd, n, rows, cols, room⟩ []) = [.v (.int .u64 sd), .v (.int .i64 room), .arr (((List.range n).map (zL ⟨sd, n, rows, cols, room⟩ [])).map cLv)] := rfl
  rw [hfin]
  have hal : ∀ i : Nat, AllLen (((List.range i).map (zL ⟨sd, n, rows, cols, room⟩ [])).map cLv) 3 := fun i x hx => by obtain ⟨y, _, rfl⟩ := List.mem_map.1 hx; rfl
  have hll : ∀ i : Nat, (((List.range i).map (zL ⟨sd, n, rows, cols, room⟩ [])).map cLv).length = i := fun i => by simp
  have hsn : ∀ i : Nat, ((List.range i).map (zL ⟨sd, n, rows, cols, room⟩ [])).map cLv ++ [[.v (.int .u64 (hrow sd ((i : Int) + 1))), .arr (Rz.map fun r => [cRow r]), .arr []]] = ((List.range (i + 1)).map (zL ⟨sd, n, rows, cols, room⟩ [])).map cLv := fun i => by
    rw [List.range_succ, List.map_append, List.map_append, List.map_cons, List.map_cons, List.map_nil, List.map_nil, hz]
  obtain ⟨Lv', hLv⟩ : ∃ Lv' : Nat → List (List CV), ∀ i, ((List.range i).map (zL ⟨sd, n, rows, cols, room⟩ [])).map cLv = Lv' i := ⟨_, fun _ => rfl⟩
  simp only [hLv] at hal hll hsn ⊢
  have hL0 : Lv' 0 = [] := by rw [← hLv]; rfl
  simp -implicitDefEqProofs [Tryd.f14, c1, c2, c3, c4, vstore, cellsOf?, Ent.wrO, wr, vmove, isNil]
  obtain ⟨I, hI⟩ : ∃ I : Nat → St → Prop, ∀ k s', I k s' ↔ (∃ e i L, s' = ⟨e, .opn [[.c (.v (.int .u64 0)), .c (.v (.int .i64 0)), .sl 1 0 0 0]] false :: .clo [] false :: .clo (Lv' i) false :: .opn [[.c (.v (.int .u64 sd)), .c (.v (.int .i64 room)), .sl 2 0 i i]] false :: L⟩ ∧ e 0 = vI .u64 sd ∧ e 2 = vI .i64 rows ∧ e 3 = vI .i64 cols ∧ e 10 = .one (.ptr ⟨0, 0, 0, 1⟩) ∧ e 12 = .one (.ptr ⟨3, 0, 0, 1⟩) ∧ e 34 = vI .i64 (n : Nat) ∧ e 35 = vI .i64 (i : Nat) ∧ (i + k = n)) := ⟨_, fun _ _ => Iff.rfl⟩
  refine wpL_ind I ?_ n _ ((hI _ _).2 ⟨_, 0, _, (by first | rfl | (simp [hL0]; done) | (simp [hL0]; rfl) | (simp [hL0]; and_intros <;> rfl)), by simp, by simp, by simp, by simp, by simp, by simp, by simp, by omega⟩)
  intro k stI hstI
  obtain ⟨e, i, L, rfl, e0, e2, e3, e10, e12, e34, e35, hk⟩ := (hI _ _).1 hstI
  by_cases c : i < n
  rotate_left
  · have hi : i = n := by omega
    subst hi
    have htk : (Lv' i).take i = Lv' i := List.take_of_length_le (by rw [hll]; exact Nat.le_refl _)
    simp -implicitDefEqProofs [e10, e12, e34, e35, vstore, cellsOf?, Ent.wrO, wr, vmove, isNil]
    simp [qa, hll, htk]
  have w_i : IntKind.i64.wrap ((i : Int) + 1) = ((i + 1 : Nat) : Int) := by rw [w64_id (by omega) (by omega)]; omega
  have hRow := hash_Row (s := sd) (i := (i : Int) + 1) s0 s1 (by omega) (by omega)
  have hw : IntKind.i64.wrap ((i : Int) + 1) = (i : Int) + 1 := w64_id (by omega) (by omega)
  have hNi := hN (hrow sd ((i : Int) + 1))
  have b1 : 56 * (i + 1) ≤ 140737488355328 := by omega
  have b2 : i + 1 ≤ 4611686018427387904 := by omega
  simp -implicitDefEqProofs [e0, e2, e3, e12, e34, e35, c, hRow, hw, hNi, hll, hal, hsn, vstore, cellsOf?, Ent.wrO, wr, vmove, isNil, vappend_sp es31 es31 el41, vbuildSlice_eq es31 el41, fzParts, setAll, rchParts, rch, rcha, frzAll, elemsOf, b1, b2]
  exact ⟨k - 1, by omega, (hI _ _).2 ⟨_, i + 1, _, (by first | rfl | (simp [hw]; done) | (simp [hw]; rfl) | (simp [hw]; and_intros <;> rfl)), by simp [e0], by simp [e2], by simp [e3], by simp [e10], by simp [e12], by simp [e34], by simp, by omega⟩⟩
end Go.Proofs.YtngpmpmhpggpgaaDoorF
end

section
/- Logarithms and counts. -/
set_option maxRecDepth 8192
set_option maxHeartbeats 4000000
namespace Go.Proofs.YtngpmpmhpggpgaaDoorF
open Go Go.Proofs.Vm

def lenN (n : Nat) : Nat := if n = 0 then 0 else Nat.log2 n + 1
theorem lenN_div {n k : Nat} (h : n / 2 ^ k ≠ 0) : lenN n = lenN (n / 2 ^ k) + k := by
  have hp : 0 < 2 ^ k := Nat.pow_pos (by decide)
  have hn : n ≠ 0 := by rintro rfl; simp at h
  have e : Nat.log2 n = Nat.log2 (n / 2 ^ k) + k := by
    have a1 := Nat.log2_self_le h
    have a2 := (Nat.log2_lt h).1 (Nat.lt_succ_self _)
    generalize Nat.log2 (n / 2 ^ k) = m at *
    have b1 : m + k ≤ Nat.log2 n := (Nat.le_log2 hn).2 (by rw [Nat.pow_add]; exact (Nat.le_div_iff_mul_le hp).1 a1)
    have b2 : Nat.log2 n < m + 1 + k := (Nat.log2_lt hn).2 (by rw [Nat.pow_add]; exact (Nat.div_lt_iff_lt_mul hp).1 a2)
    omega
  unfold lenN
  rw [if_neg hn, if_neg h, e]
  omega
theorem lenN_32 {n : Nat} (h : 4294967296 ≤ n) : lenN n = lenN (n / 4294967296) + 32 := lenN_div (k := 32) (by simp; omega)
theorem lenN_16 {n : Nat} (h : 65536 ≤ n) : lenN n = lenN (n / 65536) + 16 := lenN_div (k := 16) (by simp; omega)
theorem lenN_8 {n : Nat} (h : 256 ≤ n) : lenN n = lenN (n / 256) + 8 := lenN_div (k := 8) (by simp; omega)
/-- A table of lengths. -/
def lenTab (s : ByteArray) : Bool := decide (s.size = 256) && (List.range 256).all fun i => s.data.toList[i]? == some (UInt8.ofNat (lenN i))
theorem idx_tab {P : Program} {t : TypeId} (hu : pv P (underlying t) = some .string) {s : ByteArray} {k : IntKind} {y : Int} (hs : lenTab s = true) (h0 : 0 ≤ y) (h1 : y < 256) : vindex P t (vS s) (vI k y) = qa (vI .u8 (lenN y.toNat : Nat)) := by
  unfold lenTab at hs
  rw [Bool.and_eq_true, decide_eq_true_iff] at hs
  obtain ⟨hz, ha⟩ := hs
  rw [idx_str hu h0 (by omega)]
  have h := List.all_eq_true.1 ha y.toNat (List.mem_range.2 (by omega))
  have hb : byt s y = (lenN y.toNat : Nat) := by
    have e := beq_iff_eq.1 h
    unfold byt
    have hlt : y.toNat < s.size := by omega
    have h2 : s[y.toNat]? = some s[y.toNat] := by simp [hlt]
    rw [h2]
    have h3 : s.data.toList[y.toNat]? = some s[y.toNat] := by
      rw [List.getElem?_eq_getElem (by simpa using hlt)]
      rfl
    rw [h3] at e
    have hl : lenN y.toNat < 256 := by
      unfold lenN
      split
      · omega
      · rename_i hne
        have := (Nat.log2_lt hne (k := 8)).2 (by omega)
        omega
    show ((s[y.toNat].toNat : Nat) : Int) = _
    rw [Option.some.inj e]
    have := UInt8.toNat_ofNat (n := lenN y.toNat)
    simp
    omega
  rw [hb]
theorem u8_id {x : Int} (h0 : 0 ≤ x) (h1 : x < 256) : IntKind.u8.wrap x = x := by simp [IntKind.wrap, IntKind.bits, IntKind.signed]; omega
theorem bits_Len64 {x : Int} (h0 : 0 ≤ x) (h1 : x < 18446744073709551616) : TV.pu 23 [cI .u64 x] = some (cI .i64 (lenN x.toNat : Nat)) := by
  refine run23 (by simp) ?_
  have small : ∀ n, n < 256 → lenN n ≤ 8 := fun n hn => by
    unfold lenN
    split
    · omega
    · rename_i hne
      have := (Nat.log2_lt hne (k := 8)).2 (by omega)
      omega
  have fin : ∀ (y : Int) (b : Nat), 0 ≤ y → y < 256 → lenN x.toNat = lenN y.toNat + b → b ≤ 100 → IntKind.i64.wrap ((b : Int) + IntKind.i64.wrap (lenN y.toNat : Nat)) = (lenN x.toNat : Nat) := fun y b y0 y1 e hb => by
    have := small y.toNat (by omega)
    rw [w64_id (x := ((lenN y.toNat : Nat) : Int)) (by omega) (by omega), w64_id (by omega) (by omega), e]
    omega
  obtain ⟨n, rfl⟩ := Int.eq_ofNat_of_zero_le h0
  have k8 : IntKind.i64.wrap 8 = 8 := by decide
  have k16 : IntKind.i64.wrap 16 = 16 := by decide
  have k24 : IntKind.i64.wrap 24 = 24 := by decide
  have k40 : IntKind.i64.wrap 40 = 40 := by decide
  have k48 : IntKind.i64.wrap 48 = 48 := by decide
  have k56 : IntKind.i64.wrap 56 = 56 := by decide
  by_cases c1 : 4294967296 ≤ (n : Int)
  · by_cases c2 : 65536 ≤ (n : Int) / 4294967296
    · by_cases c3 : 256 ≤ (n : Int) / 4294967296 / 65536
      · have q0 := lenN_32 (n := n) (by omega)
        have q1 := lenN_16 (n := n / 4294967296) (by omega)
        have q2 := lenN_8 (n := n / 4294967296 / 65536) (by omega)
        have hy : ((n : Int) / 4294967296 / 65536 / 256).toNat = n / 4294967296 / 65536 / 256 := by omega
        have hf := fin ((n : Int) / 4294967296 / 65536 / 256) 56 (by omega) (by omega) (by simp only [hy, Int.toNat_natCast]; omega) (by omega)
        have hu := u8_id (x := (n : Int) / 4294967296 / 65536 / 256) (by omega) (by omega)
        simp -implicitDefEqProofs [Tryd.f23, c1, c2, c3, bin_shr, IntKind.bits, hu]
        rw [idx_tab us9 ?_ (by omega) (by omega)]
        rotate_left
        · decide +kernel
        simp at hf
        simp -implicitDefEqProofs [k48, k56, hf]
      · have q0 := lenN_32 (n := n) (by omega)
        have q1 := lenN_16 (n := n / 4294967296) (by omega)
        have hy : ((n : Int) / 4294967296 / 65536).toNat = n / 4294967296 / 65536 := by omega
        have hf := fin ((n : Int) / 4294967296 / 65536) 48 (by omega) (by omega) (by simp only [hy, Int.toNat_natCast]; omega) (by omega)
        have hu := u8_id (x := (n : Int) / 4294967296 / 65536) (by omega) (by omega)
        simp -implicitDefEqProofs [Tryd.f23, c1, c2, c3, bin_shr, IntKind.bits, hu]
        rw [idx_tab us9 ?_ (by omega) (by omega)]
        rotate_left
        · decide +kernel
        simp at hf
        simp -implicitDefEqProofs [k48, hf]
    · by_cases c3 : 256 ≤ (n : Int) / 4294967296
      · have q0 := lenN_32 (n := n) (by omega)
        have q1 := lenN_8 (n := n / 4294967296) (by omega)
        have hy : ((n : Int) / 4294967296 / 256).toNat = n / 4294967296 / 256 := by omega
        have hf := fin ((n : Int) / 4294967296 / 256) 40 (by omega) (by omega) (by simp only [hy, Int.toNat_natCast]; omega) (by omega)
        have hu := u8_id (x := (n : Int) / 4294967296 / 256) (by omega) (by omega)
        simp -implicitDefEqProofs [Tryd.f23, c1, c2, c3, bin_shr, IntKind.bits, hu]
        rw [idx_tab us9 ?_ (by omega) (by omega)]
        rotate_left
        · decide +kernel
        simp at hf
        simp -implicitDefEqProofs [k40, hf]
      · have q0 := lenN_32 (n := n) (by omega)
        have hy : ((n : Int) / 4294967296).toNat = n / 4294967296 := by omega
        have hf := fin ((n : Int) / 4294967296) 32 (by omega) (by omega) (by simp only [hy, Int.toNat_natCast]; omega) (by omega)
        have hu := u8_id (x := (n : Int) / 4294967296) (by omega) (by omega)
        simp -implicitDefEqProofs [Tryd.f23, c1, c2, c3, bin_shr, IntKind.bits, hu]
        rw [idx_tab us9 ?_ (by omega) (by omega)]
        rotate_left
        · decide +kernel
        simp at hf
        simp -implicitDefEqProofs [hf]
  · by_cases c2 : 65536 ≤ (n : Int)
    · by_cases c3 : 256 ≤ (n : Int) / 65536
      · have q0 := lenN_16 (n := n) (by omega)
        have q1 := lenN_8 (n := n / 65536) (by omega)
        have hy : ((n : Int) / 65536 / 256).toNat = n / 65536 / 256 := by omega
        have hf := fin ((n : Int) / 65536 / 256) 24 (by omega) (by omega) (by simp only [hy, Int.toNat_natCast]; omega) (by omega)
        have hu := u8_id (x := (n : Int) / 65536 / 256) (by omega) (by omega)
        simp -implicitDefEqProofs [Tryd.f23, c1, c2, c3, bin_shr, IntKind.bits, hu]
        rw [idx_tab us9 ?_ (by omega) (by omega)]
        rotate_left
        · decide +kernel
        simp at hf
        simp -implicitDefEqProofs [k16, k24, hf]
      · have q0 := lenN_16 (n := n) (by omega)
        have hy : ((n : Int) / 65536).toNat = n / 65536 := by omega
        have hf := fin ((n : Int) / 65536) 16 (by omega) (by omega) (by simp only [hy, Int.toNat_natCast]; omega) (by omega)
        have hu := u8_id (x := (n : Int) / 65536) (by omega) (by omega)
        simp -implicitDefEqProofs [Tryd.f23, c1, c2, c3, bin_shr, IntKind.bits, hu]
        rw [idx_tab us9 ?_ (by omega) (by omega)]
        rotate_left
        · decide +kernel
        simp at hf
        simp -implicitDefEqProofs [k16, hf]
    · by_cases c3 : 256 ≤ (n : Int)
      · have q0 := lenN_8 (n := n) (by omega)
        have hy : ((n : Int) / 256).toNat = n / 256 := by omega
        have hf := fin ((n : Int) / 256) 8 (by omega) (by omega) (by simp only [hy, Int.toNat_natCast]; omega) (by omega)
        have hu := u8_id (x := (n : Int) / 256) (by omega) (by omega)
        simp -implicitDefEqProofs [Tryd.f23, c1, c2, c3, bin_shr, IntKind.bits, hu]
        rw [idx_tab us9 ?_ (by omega) (by omega)]
        rotate_left
        · decide +kernel
        simp at hf
        simp -implicitDefEqProofs [k8, hf]
      · have hy : ((n : Int)).toNat = n := by omega
        have hf := fin ((n : Int)) 0 (by omega) (by omega) (by simp only [hy]; omega) (by omega)
        have hu := u8_id (x := (n : Int)) (by omega) (by omega)
        simp -implicitDefEqProofs [Tryd.f23, c1, c2, c3, hu]
        rw [idx_tab us9 ?_ (by omega) (by omega)]
        rotate_left
        · decide +kernel
        simp at hf
        simp -implicitDefEqProofs [hf]
theorem bits_Len {x : Int} (h0 : 0 ≤ x) (h1 : x < 18446744073709551616) : TV.pu 13 [cI .u64 x] = some (cI .i64 (lenN x.toNat : Nat)) := by
  refine run13 (by simp) ?_
  have h := bits_Len64 h0 h1
  simp -implicitDefEqProofs [Tryd.f13, h]
end Go.Proofs.YtngpmpmhpggpgaaDoorF
end

section
/- The program's logarithm, and what it counts. -/
set_option maxRecDepth 8192
set_option maxHeartbeats 4000000
namespace Go.Proofs.YtngpmpmhpggpgaaDoorF
open Go Go.Proofs.Vm

theorem or_one {a : Nat} (h : a < 1099511627776) : Go.bits .or .i64 ((a : Int) * 2) 1 = (a : Int) * 2 + 1 := by
  have e : ((a : Int) * 2) = ((2 * a : Nat) : Int) := by omega
  rw [e]
  show IntKind.i64.wrap ((BitVec.ofInt 64 ((2 * a : Nat) : Int) ||| BitVec.ofInt 64 ((1 : Nat) : Int)).toNat : Int) = _
  rw [BitVec.toNat_or, ofInt_u64 _ (by omega), ofInt_u64 _ (by omega), nat_join1 _ _ (by omega) (by omega), w64_id (by omega) (by omega)]
  omega
theorem univ_Log {n : Int} (h1 : n < 9223372036854775808) : TV.pu 7 [cI .i64 n] = some (cI .i64 (logI n)) := by
  refine run7 (by simp) ?_
  by_cases c1 : n < 1
  · simp -implicitDefEqProofs [Tryd.f7, c1, logI]
  obtain ⟨m, rfl⟩ := Int.eq_ofNat_of_zero_le (show 0 ≤ n by omega)
  have hm : m ≠ 0 := by omega
  have hl : logI (m : Int) = (lgN m : Nat) := by unfold logI; rw [if_neg c1, Int.toNat_natCast]
  rw [hl]
  have wu : IntKind.u64.wrap (m : Int) = m := u64_id (by omega) (by omega)
  have hL := bits_Len (x := (m : Int)) (by omega) (by omega)
  rw [Int.toNat_natCast] at hL
  obtain ⟨k, hk⟩ : ∃ k, Nat.log2 m = k := ⟨_, rfl⟩
  have hk63 := log2_lt63 (n := m) (by omega) hm
  have hln : ((lenN m : Nat) : Int) = (k : Int) + 1 := by unfold lenN; rw [if_neg hm, hk]; omega
  rw [hln] at hL
  have wk : IntKind.i64.wrap (k : Int) = (k : Int) := w64_id (by omega) (by omega)
  have hX := lgX_ok hm
  obtain ⟨X, hXe⟩ : ∃ X, lgX m (Nat.log2 m) = X := ⟨_, rfl⟩
  have hfin : lgN m = (lgIt 16 (k, X)).1 := by unfold lgN; rw [hXe, hk]
  rw [hXe, hk] at hX
  rw [hk] at hk63
  rw [hfin]
  obtain ⟨I, hI⟩ : ∃ I : Nat → St → Prop, ∀ q s', I q s' ↔ (∃ e i s, s' = ⟨e, []⟩ ∧ e 4 = vI .u64 (s.2 : Nat) ∧ e 5 = vI .i64 (s.1 : Nat) ∧ e 25 = vI .i64 (i : Nat) ∧ i + q = 16 ∧ s = lgIt i (k, X)) := ⟨_, fun _ _ => Iff.rfl⟩
  by_cases c2 : 30 < k
  · have c2' : 30 < (k : Int) := by omega
    have wk2 : IntKind.i64.wrap ((k : Int) - 30) = ((k - 30 : Nat) : Int) := by rw [w64_id (by omega) (by omega)]; omega
    have hmin : min (k - 30) 64 = k - 30 := by omega
    have hsh : (m : Int).fdiv (2 ^ (k - 30)) = (X : Int) := by
      rw [← hXe, hk]
      unfold lgX
      rw [if_pos c2, Int.fdiv_eq_ediv_of_nonneg _ (Int.pow_nonneg (by decide))]
      simp
    simp -implicitDefEqProofs [Tryd.f7, c1, wu, hL, wk, wk2, c2', hmin, hsh, bin_shr, IntKind.bits]
    refine wpL_ind I ?_ 16 _ ((hI _ _).2 ⟨_, 0, (k, X), rfl, by simp, by simp, by simp, by omega, rfl⟩)
    intro q st hst
    obtain ⟨e, i, s, rfl, e4, e5, e25, hq, hs⟩ := (hI _ _).1 hst
    have ok : lgOk s := by rw [hs]; exact lgIt_ok i hX
    have hb : s.1 < 4194304 := by
      have h1 := lgIt_lt i (k, X)
      rw [← hs] at h1
      have h2 : 2 ^ i ≤ 2 ^ 16 := Nat.pow_le_pow_right (by omega) (by omega)
      have h3 := Nat.mul_le_mul (show k + 1 ≤ 64 by omega) h2
      dsimp only at h1
      omega
    obtain ⟨a, x⟩ := s
    have sq := lgStep_sq ok
    obtain ⟨o1, o2⟩ := ok
    dsimp only at e4 e5 hb sq o1 o2
    by_cases c : i < 16
    · have c' : (i : Int) < 16 := by omega
      have w_i : IntKind.i64.wrap ((i : Int) + 1) = ((i + 1 : Nat) : Int) := by rw [w64_id (by omega) (by omega)]; omega
      obtain ⟨y, hy⟩ : ∃ y, x * x / 1073741824 = y := ⟨_, rfl⟩
      have hxx : (x : Int) * (x : Int) = ((x * x : Nat) : Int) := by simp
      have w1 : IntKind.u64.wrap ((x : Int) * (x : Int)) = (x : Int) * (x : Int) := by rw [hxx]; exact u64_id (by omega) (by omega)
      have hd : (x : Int) * (x : Int) / 1073741824 = (y : Int) := by rw [hxx]; omega
      have w2 : IntKind.i64.wrap ((a : Int) * 2) = (a : Int) * 2 := w64_id (by omega) (by omega)
      have ho := or_one (a := a) (by omega)
      have hst2 : lgStep (a, x) = if 2147483648 ≤ y then (2 * a + 1, y / 2) else (2 * a, y) := by unfold lgStep; simp only [hy]
      by_cases d : 2147483648 ≤ y
      · have d' : 2147483648 ≤ (y : Int) := by omega
        simp -implicitDefEqProofs [e4, e5, e25, c', w1, hd, w2, d', ho, bin_shr, bin_shl, IntKind.bits]
        exact ⟨q - 1, by omega, (hI _ _).2 ⟨_, i + 1, (2 * a + 1, y / 2), rfl, by simp, by simp; omega, by simp [w_i], by omega, by rw [lgIt_snoc, ← hs, hst2, if_pos d]⟩⟩
      · have d' : ¬ 2147483648 ≤ (y : Int) := by omega
        simp -implicitDefEqProofs [e4, e5, e25, c', w1, hd, w2, d', bin_shr, bin_shl, IntKind.bits]
        exact ⟨q - 1, by omega, (hI _ _).2 ⟨_, i + 1, (2 * a, y), rfl, by simp, by simp; omega, by simp [w_i], by omega, by rw [lgIt_snoc, ← hs, hst2, if_neg d]⟩⟩
    · have hi : i = 16 := by omega
      subst hi
      rw [← hs]
      simp -implicitDefEqProofs [e5, e25]
  · have c2' : ¬ 30 < (k : Int) := by omega
    have wk2 : IntKind.i64.wrap (30 - (k : Int)) = ((30 - k : Nat) : Int) := by rw [w64_id (by omega) (by omega)]; omega
    have hmin : min (30 - k) 64 = 30 - k := by omega
    have hx2 := hX.2
    have hsh : IntKind.u64.wrap ((m : Int) * 2 ^ (30 - k)) = (X : Int) := by
      have e : (m : Int) * 2 ^ (30 - k) = (X : Int) := by
        rw [← hXe, hk]
        unfold lgX
        rw [if_neg c2]
        simp
      rw [e]
      dsimp only at hx2
      exact u64_id (by omega) (by omega)
    simp -implicitDefEqProofs [Tryd.f7, c1, wu, hL, wk, wk2, c2', hmin, hsh, bin_shl, IntKind.bits]
    refine wpL_ind I ?_ 16 _ ((hI _ _).2 ⟨_, 0, (k, X), rfl, by simp, by simp, by simp, by omega, rfl⟩)
    intro q st hst
    obtain ⟨e, i, s, rfl, e4, e5, e25, hq, hs⟩ := (hI _ _).1 hst
    have ok : lgOk s := by rw [hs]; exact lgIt_ok i hX
    have hb : s.1 < 4194304 := by
      have h1 := lgIt_lt i (k, X)
      rw [← hs] at h1
      have h2 : 2 ^ i ≤ 2 ^ 16 := Nat.pow_le_pow_right (by omega) (by omega)
      have h3 := Nat.mul_le_mul (show k + 1 ≤ 64 by omega) h2
      dsimp only at h1
      omega
    obtain ⟨a, x⟩ := s
    have sq := lgStep_sq ok
    obtain ⟨o1, o2⟩ := ok
    dsimp only at e4 e5 hb sq o1 o2
    by_cases c : i < 16
    · have c' : (i : Int) < 16 := by omega
      have w_i : IntKind.i64.wrap ((i : Int) + 1) = ((i + 1 : Nat) : Int) := by rw [w64_id (by omega) (by omega)]; omega
      obtain ⟨y, hy⟩ : ∃ y, x * x / 1073741824 = y := ⟨_, rfl⟩
      have hxx : (x : Int) * (x : Int) = ((x * x : Nat) : Int) := by simp
      have w1 : IntKind.u64.wrap ((x : Int) * (x : Int)) = (x : Int) * (x : Int) := by rw [hxx]; exact u64_id (by omega) (by omega)
      have hd : (x : Int) * (x : Int) / 1073741824 = (y : Int) := by rw [hxx]; omega
      have w2 : IntKind.i64.wrap ((a : Int) * 2) = (a : Int) * 2 := w64_id (by omega) (by omega)
      have ho := or_one (a := a) (by omega)
      have hst2 : lgStep (a, x) = if 2147483648 ≤ y then (2 * a + 1, y / 2) else (2 * a, y) := by unfold lgStep; simp only [hy]
      by_cases d : 2147483648 ≤ y
      · have d' : 2147483648 ≤ (y : Int) := by omega
        simp -implicitDefEqProofs [e4, e5, e25, c', w1, hd, w2, d', ho, bin_shr, bin_shl, IntKind.bits]
        exact ⟨q - 1, by omega, (hI _ _).2 ⟨_, i + 1, (2 * a + 1, y / 2), rfl, by simp, by simp; omega, by simp [w_i], by omega, by rw [lgIt_snoc, ← hs, hst2, if_pos d]⟩⟩
      · have d' : ¬ 2147483648 ≤ (y : Int) := by omega
        simp -implicitDefEqProofs [e4, e5, e25, c', w1, hd, w2, d', bin_shr, bin_shl, IntKind.bits]
        exact ⟨q - 1, by omega, (hI _ _).2 ⟨_, i + 1, (2 * a, y), rfl, by simp, by simp; omega, by simp [w_i], by omega, by rw [lgIt_snoc, ← hs, hst2, if_neg d]⟩⟩
    · have hi : i = 16 := by omega
      subst hi
      rw [← hs]
      simp -implicitDefEqProofs [e5, e25]
end Go.Proofs.YtngpmpmhpggpgaaDoorF
end

section
/- What a number counts, by the program and by the document; the document's logarithm. -/
set_option maxRecDepth 8192
set_option maxHeartbeats 4000000
namespace Go.Proofs.YtngpmpmhpggpgaaDoorF
open Go Go.Proofs.Vm

theorem univ_Count {kind n : Int} : TV.pu 8 [cI .i64 kind, cI .i64 n] = some (cI .i64 (cntI kind n)) := by
  refine run8 (by simp) ?_
  have hcl : (if 1048576 < (if n < 0 then 0 else n) then 1048576 else if n < 0 then 0 else n) = clip n := by unfold clip; split <;> split <;> omega
  have hr := clip_range n
  have hL := univ_Log (n := clip n) (by omega)
  have hR := cntI_range kind n
  unfold cntI at hR ⊢
  obtain ⟨c, hc⟩ : ∃ c, clip n = c := ⟨_, rfl⟩
  rw [hc] at hcl hr hL hR ⊢
  by_cases k0 : kind = 0
  · subst k0
    have e : (if 1 < c then 1 else c) = if c < 1 then c else 1 := by split <;> split <;> omega
    simp -implicitDefEqProofs [Tryd.f8, hcl, e]
  by_cases k1 : kind = 1
  · subst k1
    simp -implicitDefEqProofs [Tryd.f8, hcl]
  by_cases k2 : kind = 2
  · subst k2
    simp only [if_neg (show ¬ ((2 : Int) = 0) by decide), if_neg (show ¬ ((2 : Int) = 1) by decide), if_true] at hR ⊢
    have w : IntKind.i64.wrap (c * c) = c * c := w64_id (by omega) (by omega)
    simp -implicitDefEqProofs [Tryd.f8, hcl, w]
  by_cases k3 : kind = 3
  · subst k3
    simp only [if_neg (show ¬ ((3 : Int) = 0) by decide), if_neg (show ¬ ((3 : Int) = 1) by decide), if_neg (show ¬ ((3 : Int) = 2) by decide), if_true] at hR ⊢
    have w : IntKind.i64.wrap (c * logI c) = c * logI c := w64_id (by omega) (by omega)
    simp -implicitDefEqProofs [Tryd.f8, hcl, hL, w]
  · simp -implicitDefEqProofs [Tryd.f8, hcl, k0, k1, k2, k3]
end Go.Proofs.YtngpmpmhpggpgaaDoorF
end

section
/- The document's logarithm, and what a number counts. -/
set_option maxRecDepth 8192
set_option maxHeartbeats 4000000
namespace Go.Proofs.YtngpmpmhpggpgaaDoorF
open Go Go.Proofs.Vm

theorem r18_Log {n : Int} (h0 : 1 ≤ n) (h1 : n < 9223372036854775808) : TV.pu 6 [cI .i64 n] = some (cI .i64 (logI n)) := by
  refine run6 (by simp) ?_
  obtain ⟨m, rfl⟩ := Int.eq_ofNat_of_zero_le (show 0 ≤ n by omega)
  have hm : m ≠ 0 := by omega
  have hl : logI (m : Int) = (lgN m : Nat) := by unfold logI; rw [if_neg (by omega), Int.toNat_natCast]
  rw [hl]
  obtain ⟨K, hK⟩ : ∃ K, Nat.log2 m = K := ⟨_, rfl⟩
  have hk63 := log2_lt63 (n := m) (by omega) hm
  have hX := lgX_ok hm
  obtain ⟨X, hXe⟩ : ∃ X, lgX m (Nat.log2 m) = X := ⟨_, rfl⟩
  have hfin : lgN m = (lgIt 16 (K, X)).1 := by unfold lgN; rw [hXe, hK]
  have lo := Nat.log2_self_le hm
  have hi2 := (Nat.log2_lt hm).1 (Nat.lt_succ_self _)
  rw [hXe, hK] at hX
  rw [hK] at hk63 lo hi2
  rw [hK] at hXe
  rw [hfin]
  simp -implicitDefEqProofs [Tryd.f6]
  obtain ⟨I, hI⟩ : ∃ I : Nat → St → Prop, ∀ q s', I q s' ↔ (∃ e k, s' = ⟨e, []⟩ ∧ e 0 = vI .i64 (m : Nat) ∧ e 3 = vI .i64 (k : Nat) ∧ e 4 = vI .i64 ((2 ^ k : Nat) : Int) ∧ (k + q = K)) := ⟨_, fun _ _ => Iff.rfl⟩
  refine wpL_ind I ?_ K _ ((hI _ _).2 ⟨_, 0, (by first | rfl | (simp; done) | (simp; rfl) | (simp; and_intros <;> rfl)), by simp, by simp, by simp, by omega⟩)
  intro q stI hstI
  obtain ⟨e, k, rfl, e0, e3, e4, hq⟩ := (hI _ _).1 hstI
  have hp0 : 0 < 2 ^ k := Nat.pow_pos (by decide)
  have hpk : 2 ^ k ≤ 2 ^ K := Nat.pow_le_pow_right (by decide) (by omega)
  obtain ⟨p, hp⟩ : ∃ p, 2 ^ k = p := ⟨_, rfl⟩
  have hpn : ((2 ^ k : Nat) : Int) = (p : Int) := by rw [hp]
  rw [hpn] at e4
  have hne : (p : Int) ≠ 0 := by omega
  have hne' : p ≠ 0 := by omega
  obtain ⟨d, hd⟩ : ∃ d, m / p = d := ⟨_, rfl⟩
  have htd : (m : Int).tdiv (p : Int) = (d : Int) := by rw [Int.tdiv_eq_ediv_of_nonneg (by omega), ← hd]; simp
  have hle : d ≤ m := by rw [← hd]; exact Nat.div_le_self _ _
  have wq : IntKind.i64.wrap (d : Int) = (d : Int) := w64_id (by omega) (by omega)
  by_cases c : k < K
  · have h2 : 2 ^ (k + 1) ≤ 2 ^ K := Nat.pow_le_pow_right (by decide) (by omega)
    have h22 : 2 ^ (k + 1) = p * 2 := by rw [Nat.pow_succ, hp]
    have hgt : 1 < d := by rw [← hd]; exact (Nat.le_div_iff_mul_le (by omega)).2 (by omega)
    have hgt' : 1 < (d : Int) := by omega
    have w1 : IntKind.i64.wrap ((p : Int) * 2) = (p : Int) * 2 := w64_id (by omega) (by omega)
    have w_k : IntKind.i64.wrap ((k : Int) + 1) = ((k + 1 : Nat) : Int) := by rw [w64_id (by omega) (by omega)]; omega
    simp -implicitDefEqProofs [e0, e3, e4, bin_quo, hne', htd, wq, hgt', w1, w_k]
    exact ⟨q - 1, by omega, (hI _ _).2 ⟨_, k + 1, rfl, by simp [e0], by simp, by simp [h22], by omega⟩⟩
  · have hkK : k = K := by omega
    subst hkK
    have hle1 : ¬ 1 < d := by
      intro h
      rw [← hd] at h
      have := (Nat.le_div_iff_mul_le (show 0 < p by omega)).1 h
      rw [Nat.succ_eq_add_one, Nat.pow_succ, hp] at hi2
      omega
    have hle' : ¬ 1 < (d : Int) := by omega
    by_cases c2 : 30 < k
    · have c2' : 30 < (k : Int) := by omega
      simp -implicitDefEqProofs [e0, e3, e4, bin_quo, hne', htd, wq, hle', c2']
      obtain ⟨B, hB⟩ : ∃ B : Nat → St → Prop, ∀ r s', B r s' ↔ (∃ e j, s' = ⟨e, []⟩ ∧ e 0 = vI .i64 ((m / 2 ^ j : Nat) : Int) ∧ e 3 = vI .i64 (k : Nat) ∧ e 6 = vI .i64 ((30 + j : Nat) : Int) ∧ (30 + j + r = k)) := ⟨_, fun _ _ => Iff.rfl⟩
      refine wpL_ind B ?_ (k - 30) _ ((hB _ _).2 ⟨_, 0, (by first | rfl | (simp [e0, e3]; done) | (simp [e0, e3]; rfl) | (simp [e0, e3]; and_intros <;> rfl)), by simp [e0], by simp [e3], by simp, by omega⟩)
      intro r stB hstB
      obtain ⟨e, j, rfl, e0, e3, e6, hr⟩ := (hB _ _).1 hstB
      obtain ⟨v, hv⟩ : ∃ v, m / 2 ^ j = v := ⟨_, rfl⟩
      have hvm : v ≤ m := by rw [← hv]; exact Nat.div_le_self _ _
      have hvn : ((m / 2 ^ j : Nat) : Int) = (v : Int) := by rw [hv]
      rw [hvn] at e0
      obtain ⟨i, hi⟩ : ∃ i, 30 + j = i := ⟨_, rfl⟩
      have hin : ((30 + j : Nat) : Int) = (i : Int) := by rw [hi]
      rw [hin] at e6
      by_cases c3 : i < k
      · have wv : (v : Int).tdiv 2 = ((v / 2 : Nat) : Int) := by rw [Int.tdiv_eq_ediv_of_nonneg (by omega)]; simp
        have wv2 : IntKind.i64.wrap ((v / 2 : Nat) : Int) = ((v / 2 : Nat) : Int) := w64_id (by omega) (by omega)
        obtain ⟨v2, hv2⟩ : ∃ v2, v / 2 = v2 := ⟨_, rfl⟩
        rw [hv2] at wv wv2
        have hnx : m / 2 ^ (j + 1) = v2 := by rw [Nat.pow_succ, ← Nat.div_div_eq_div_mul, hv, hv2]
        have w_i : IntKind.i64.wrap ((i : Int) + 1) = ((i + 1 : Nat) : Int) := by rw [w64_id (by omega) (by omega)]; omega
        simp -implicitDefEqProofs [e0, e3, e6, c3, wv, wv2, w_i, bin_quo]
        exact ⟨r - 1, by omega, (hB _ _).2 ⟨_, j + 1, rfl, by simp [hnx], by simp [e3], by simp; omega, by omega⟩⟩
      · have hjk : j = k - 30 := by omega
        have hXv : v = X := by
          rw [← hv, ← hXe, hjk]
          unfold lgX
          rw [if_pos c2]
        rw [hXv] at e0
        simp -implicitDefEqProofs [e0, e3, e6, c3]
        obtain ⟨J, hJ⟩ : ∃ J : Nat → St → Prop, ∀ r s', J r s' ↔ (∃ e' i s, s' = ⟨e', []⟩ ∧ e' 3 = vI .i64 (s.1 : Nat) ∧ e' 5 = vI .i64 (s.2 : Nat) ∧ e' 8 = vI .i64 (i : Nat) ∧ (i + r = 16) ∧ (s = lgIt i (k, X))) := ⟨_, fun _ _ => Iff.rfl⟩
        refine wpL_ind J ?_ 16 _ ((hJ _ _).2 ⟨_, 0, (k, X), (by first | rfl | (simp [e0, e3]; done) | (simp [e0, e3]; rfl) | (simp [e0, e3]; and_intros <;> rfl)), by simp [e3], by simp, by simp, by omega, rfl⟩)
        intro r stJ hstJ
        obtain ⟨e', i, s, rfl, e3, e5, e8, hr, hs⟩ := (hJ _ _).1 hstJ
        have ok : lgOk s := by rw [hs]; exact lgIt_ok i hX
        have hb : s.1 < 4194304 := by
          have h1 := lgIt_lt i (k, X)
          rw [← hs] at h1
          have h2 : 2 ^ i ≤ 2 ^ 16 := Nat.pow_le_pow_right (by omega) (by omega)
          have h3 := Nat.mul_le_mul (show k + 1 ≤ 64 by omega) h2
          dsimp only at h1
          omega
        obtain ⟨a, x⟩ := s
        have sq := lgStep_sq ok
        obtain ⟨o1, o2⟩ := ok
        dsimp only at e3 e5 hb sq o1 o2
        by_cases c : i < 16
        · have c' : (i : Int) < 16 := by omega
          have w_i : IntKind.i64.wrap ((i : Int) + 1) = ((i + 1 : Nat) : Int) := by rw [w64_id (by omega) (by omega)]; omega
          obtain ⟨y, hy⟩ : ∃ y, x * x / 1073741824 = y := ⟨_, rfl⟩
          have hxx : (x : Int) * (x : Int) = ((x * x : Nat) : Int) := by simp
          have w1 : IntKind.i64.wrap ((x : Int) * (x : Int)) = (x : Int) * (x : Int) := by rw [hxx]; exact w64_id (by omega) (by omega)
          have hd1 : ((x : Int) * (x : Int)).tdiv 1073741824 = (y : Int) := by rw [Int.tdiv_eq_ediv_of_nonneg (by rw [hxx]; omega), hxx]; omega
          have wy : IntKind.i64.wrap (y : Int) = (y : Int) := w64_id (by omega) (by omega)
          have w2 : IntKind.i64.wrap ((a : Int) * 2) = (a : Int) * 2 := w64_id (by omega) (by omega)
          have w3 : IntKind.i64.wrap ((a : Int) * 2 + 1) = (a : Int) * 2 + 1 := w64_id (by omega) (by omega)
          have hy2 : (y : Int).tdiv 2 = ((y / 2 : Nat) : Int) := by rw [Int.tdiv_eq_ediv_of_nonneg (by omega)]; simp
          have wy2 : IntKind.i64.wrap ((y / 2 : Nat) : Int) = ((y / 2 : Nat) : Int) := w64_id (by omega) (by omega)
          obtain ⟨y2, hy3⟩ : ∃ y2, y / 2 = y2 := ⟨_, rfl⟩
          rw [hy3] at hy2 wy2
          have hst2 : lgStep (a, x) = if 2147483648 ≤ y then (2 * a + 1, y / 2) else (2 * a, y) := by unfold lgStep; simp only [hy]
          by_cases d2 : 2147483648 ≤ y
          · have d' : 2147483648 ≤ (y : Int) := by omega
            simp -implicitDefEqProofs [e3, e5, e8, c', w1, hd1, wy, w2, w3, hy2, wy2, d', bin_quo]
            exact ⟨r - 1, by omega, (hJ _ _).2 ⟨_, i + 1, (2 * a + 1, y2), rfl, by simp; omega, by simp, by simp [w_i], by omega, by rw [lgIt_snoc, ← hs, hst2, if_pos d2, hy3]⟩⟩
          · have d' : ¬ 2147483648 ≤ (y : Int) := by omega
            simp -implicitDefEqProofs [e3, e5, e8, c', w1, hd1, wy, w2, d', bin_quo]
            exact ⟨r - 1, by omega, (hJ _ _).2 ⟨_, i + 1, (2 * a, y), rfl, by simp; omega, by simp, by simp [w_i], by omega, by rw [lgIt_snoc, ← hs, hst2, if_neg d2]⟩⟩
        · have hi : i = 16 := by omega
          subst hi
          rw [← hs]
          simp -implicitDefEqProofs [e3, e8]
    · have c2' : ¬ 30 < (k : Int) := by omega
      simp -implicitDefEqProofs [e0, e3, e4, bin_quo, hne', htd, wq, hle', c2']
      obtain ⟨B, hB⟩ : ∃ B : Nat → St → Prop, ∀ r s', B r s' ↔ (∃ e j, s' = ⟨e, []⟩ ∧ e 3 = vI .i64 (k : Nat) ∧ e 5 = vI .i64 ((m * 2 ^ j : Nat) : Int) ∧ e 7 = vI .i64 ((k + j : Nat) : Int) ∧ (k + j + r = 30)) := ⟨_, fun _ _ => Iff.rfl⟩
      refine wpL_ind B ?_ (30 - k) _ ((hB _ _).2 ⟨_, 0, (by first | rfl | (simp [e0, e3]; done) | (simp [e0, e3]; rfl) | (simp [e0, e3]; and_intros <;> rfl)), by simp [e3], by simp, by simp, by omega⟩)
      intro r stB hstB
      obtain ⟨e, j, rfl, e3, e5, e7, hr⟩ := (hB _ _).1 hstB
      have hxb : m * 2 ^ j ≤ X := by
        rw [← hXe]
        unfold lgX
        rw [if_neg c2]
        exact Nat.mul_le_mul_left _ (Nat.pow_le_pow_right (by decide) (by omega))
      have hx2 := hX.2
      dsimp only at hx2
      obtain ⟨v, hv⟩ : ∃ v, m * 2 ^ j = v := ⟨_, rfl⟩
      have hvn : ((m * 2 ^ j : Nat) : Int) = (v : Int) := by rw [hv]
      rw [hvn] at e5
      rw [hv] at hxb
      obtain ⟨i, hi⟩ : ∃ i, k + j = i := ⟨_, rfl⟩
      have hin : ((k + j : Nat) : Int) = (i : Int) := by rw [hi]
      rw [hin] at e7
      by_cases c3 : i < 30
      · have c3' : (i : Int) < 30 := by omega
        have wv : IntKind.i64.wrap ((v : Int) * 2) = (v : Int) * 2 := w64_id (by omega) (by omega)
        have hnx : m * 2 ^ (j + 1) = v * 2 := by rw [Nat.pow_succ, ← Nat.mul_assoc, hv]
        have w_i : IntKind.i64.wrap ((i : Int) + 1) = ((i + 1 : Nat) : Int) := by rw [w64_id (by omega) (by omega)]; omega
        simp -implicitDefEqProofs [e5, e7, c3', wv, w_i]
        exact ⟨r - 1, by omega, (hB _ _).2 ⟨_, j + 1, rfl, by simp [e3], by simp [hnx], by simp; omega, by omega⟩⟩
      · have c3' : ¬ (i : Int) < 30 := by omega
        have hjk : j = 30 - k := by omega
        have hXv : v = X := by
          rw [← hv, ← hXe, hjk]
          unfold lgX
          rw [if_neg c2]
        rw [hXv] at e5
        simp -implicitDefEqProofs [e7, c3']
        obtain ⟨J, hJ⟩ : ∃ J : Nat → St → Prop, ∀ r s', J r s' ↔ (∃ e' i s, s' = ⟨e', []⟩ ∧ e' 3 = vI .i64 (s.1 : Nat) ∧ e' 5 = vI .i64 (s.2 : Nat) ∧ e' 8 = vI .i64 (i : Nat) ∧ (i + r = 16) ∧ (s = lgIt i (k, X))) := ⟨_, fun _ _ => Iff.rfl⟩
        refine wpL_ind J ?_ 16 _ ((hJ _ _).2 ⟨_, 0, (k, X), (by first | rfl | (simp [e3, e5]; done) | (simp [e3, e5]; rfl) | (simp [e3, e5]; and_intros <;> rfl)), by simp [e3], by simp [e5], by simp, by omega, rfl⟩)
        intro r stJ hstJ
        obtain ⟨e', i, s, rfl, e3, e5, e8, hr, hs⟩ := (hJ _ _).1 hstJ
        have ok : lgOk s := by rw [hs]; exact lgIt_ok i hX
        have hb : s.1 < 4194304 := by
          have h1 := lgIt_lt i (k, X)
          rw [← hs] at h1
          have h2 : 2 ^ i ≤ 2 ^ 16 := Nat.pow_le_pow_right (by omega) (by omega)
          have h3 := Nat.mul_le_mul (show k + 1 ≤ 64 by omega) h2
          dsimp only at h1
          omega
        obtain ⟨a, x⟩ := s
        have sq := lgStep_sq ok
        obtain ⟨o1, o2⟩ := ok
        dsimp only at e3 e5 hb sq o1 o2
        by_cases c : i < 16
        · have c' : (i : Int) < 16 := by omega
          have w_i : IntKind.i64.wrap ((i : Int) + 1) = ((i + 1 : Nat) : Int) := by rw [w64_id (by omega) (by omega)]; omega
          obtain ⟨y, hy⟩ : ∃ y, x * x / 1073741824 = y := ⟨_, rfl⟩
          have hxx : (x : Int) * (x : Int) = ((x * x : Nat) : Int) := by simp
          have w1 : IntKind.i64.wrap ((x : Int) * (x : Int)) = (x : Int) * (x : Int) := by rw [hxx]; exact w64_id (by omega) (by omega)
          have hd1 : ((x : Int) * (x : Int)).tdiv 1073741824 = (y : Int) := by rw [Int.tdiv_eq_ediv_of_nonneg (by rw [hxx]; omega), hxx]; omega
          have wy : IntKind.i64.wrap (y : Int) = (y : Int) := w64_id (by omega) (by omega)
          have w2 : IntKind.i64.wrap ((a : Int) * 2) = (a : Int) * 2 := w64_id (by omega) (by omega)
          have w3 : IntKind.i64.wrap ((a : Int) * 2 + 1) = (a : Int) * 2 + 1 := w64_id (by omega) (by omega)
          have hy2 : (y : Int).tdiv 2 = ((y / 2 : Nat) : Int) := by rw [Int.tdiv_eq_ediv_of_nonneg (by omega)]; simp
          have wy2 : IntKind.i64.wrap ((y / 2 : Nat) : Int) = ((y / 2 : Nat) : Int) := w64_id (by omega) (by omega)
          obtain ⟨y2, hy3⟩ : ∃ y2, y / 2 = y2 := ⟨_, rfl⟩
          rw [hy3] at hy2 wy2
          have hst2 : lgStep (a, x) = if 2147483648 ≤ y then (2 * a + 1, y / 2) else (2 * a, y) := by unfold lgStep; simp only [hy]
          by_cases d2 : 2147483648 ≤ y
          · have d' : 2147483648 ≤ (y : Int) := by omega
            simp -implicitDefEqProofs [e3, e5, e8, c', w1, hd1, wy, w2, w3, hy2, wy2, d', bin_quo]
            exact ⟨r - 1, by omega, (hJ _ _).2 ⟨_, i + 1, (2 * a + 1, y2), rfl, by simp; omega, by simp, by simp [w_i], by omega, by rw [lgIt_snoc, ← hs, hst2, if_pos d2, hy3]⟩⟩
          · have d' : ¬ 2147483648 ≤ (y : Int) := by omega
            simp -implicitDefEqProofs [e3, e5, e8, c', w1, hd1, wy, w2, d', bin_quo]
            exact ⟨r - 1, by omega, (hJ _ _).2 ⟨_, i + 1, (2 * a, y), rfl, by simp; omega, by simp, by simp [w_i], by omega, by rw [lgIt_snoc, ← hs, hst2, if_neg d2]⟩⟩
        · have hi : i = 16 := by omega
          subst hi
          rw [← hs]
          simp -implicitDefEqProofs [e3, e8]
theorem r18_Count {kind n : Int} (h1 : n < 9223372036854775808) : TV.pu 9 [cI .i64 kind, cI .i64 n] = some (cI .i64 (cntI kind n)) := by
  refine run9 (by simp) ?_
  have hR := cntI_range kind n
  by_cases c1 : n < 1
  · have e : cntI kind n = 0 := by
      have : clip n = 0 := by unfold clip; split <;> (try split) <;> omega
      unfold cntI
      rw [this]
      simp
    rw [e]
    simp -implicitDefEqProofs [Tryd.f9, c1]
  by_cases c2 : kind < 0
  · have e : cntI kind n = 0 := by unfold cntI; rw [if_neg (by omega), if_neg (by omega), if_neg (by omega), if_neg (by omega)]
    rw [e]
    simp -implicitDefEqProofs [Tryd.f9, c1, c2]
  by_cases c3 : 3 < kind
  · have e : cntI kind n = 0 := by unfold cntI; rw [if_neg (by omega), if_neg (by omega), if_neg (by omega), if_neg (by omega)]
    rw [e]
    simp -implicitDefEqProofs [Tryd.f9, c1, c2, c3]
  have hr := clip_range n
  have hc1 : 1 ≤ clip n := by unfold clip; split <;> (try split) <;> omega
  have hL := r18_Log hc1 (by omega)
  have hk : kind = 0 ∨ kind = 1 ∨ kind = 2 ∨ kind = 3 := by omega
  obtain ⟨c, hc⟩ : ∃ c, clip n = c := ⟨_, rfl⟩
  unfold cntI at hR ⊢
  rw [hc] at hR hL hr hc1 ⊢
  by_cases c4 : 1048576 < n
  · have hcn : c = 1048576 := by rw [← hc]; unfold clip; rw [if_neg (by omega), if_pos c4]
    subst hcn
    rcases hk with rfl | rfl | rfl | rfl
    · simp -implicitDefEqProofs [Tryd.f9, c1, c4]
    · simp -implicitDefEqProofs [Tryd.f9, c1, c4]
    · have w : IntKind.i64.wrap 1099511627776 = 1099511627776 := by decide
      simp -implicitDefEqProofs [Tryd.f9, c1, c4, w]
    · simp only [if_neg (show ¬ ((3 : Int) = 0) by decide), if_neg (show ¬ ((3 : Int) = 1) by decide), if_neg (show ¬ ((3 : Int) = 2) by decide), if_true] at hR ⊢
      have w : IntKind.i64.wrap (1048576 * logI 1048576) = 1048576 * logI 1048576 := w64_id (by omega) (by omega)
      simp -implicitDefEqProofs [Tryd.f9, c1, c4, hL, w]
  · have hcn : c = n := by rw [← hc]; unfold clip; rw [if_neg (by omega), if_neg c4]
    subst hcn
    rcases hk with rfl | rfl | rfl | rfl
    · simp -implicitDefEqProofs [Tryd.f9, c1, c4]
    · simp -implicitDefEqProofs [Tryd.f9, c1, c4]
    · simp only [if_neg (show ¬ ((2 : Int) = 0) by decide), if_neg (show ¬ ((2 : Int) = 1) by decide), if_true] at hR ⊢
      have w : IntKind.i64.wrap (c * c) = c * c := w64_id (by omega) (by omega)
      simp -implicitDefEqProofs [Tryd.f9, c1, c4, w]
    · simp only [if_neg (show ¬ ((3 : Int) = 0) by decide), if_neg (show ¬ ((3 : Int) = 1) by decide), if_neg (show ¬ ((3 : Int) = 2) by decide), if_true] at hR ⊢
      have w : IntKind.i64.wrap (c * logI c) = c * logI c := w64_id (by omega) (by omega)
      simp -implicitDefEqProofs [Tryd.f9, c1, c4, hL, w]
end Go.Proofs.YtngpmpmhpggpgaaDoorF
end

section
/- A key comes to a sketch of levels. -/
set_option maxRecDepth 8192
set_option maxHeartbeats 4000000
namespace Go.Proofs.YtngpmpmhpggpgaaDoorF
open Go Go.Proofs.Vm

theorem okR_add {seed : Int} {key : ByteArray} {n : Int} {rows : List (List Int)} (hok : OkR rows) (hf : ∀ j, ∀ h : j < rows.length, fitsB (newV seed key n (j : Int) rows[j]) = true) : OkR (addRows seed key n rows) where
  l7 := by rw [addRows_len]; exact hok.l7
  odd := by rw [addRows_len]; exact hok.odd
  row r hr := by
    obtain ⟨i, hi, rfl⟩ := List.getElem_of_mem hr
    have hi' : i < rows.length := by rw [addRows_len] at hi; exact hi
    have hlen : ∀ j (h : j < rows.length) (h2 : j < (addRows seed key n rows).length), (addRows seed key n rows)[j].length = rows[j].length := fun j h h2 => by rw [addRows_at j h h2]; simp [updRow]
    have h := hok.row _ (List.getElem_mem hi')
    have h0 : 0 < rows.length := by omega
    have hd : ((addRows seed key n rows).headD []).length = (rows.headD []).length := by
      have e1 : ∀ l : List (List Int), (h : 0 < l.length) → l.headD [] = l[0] := fun l h => by cases l with | nil => simp at h | cons a t => rfl
      rw [e1 _ (by rw [addRows_len]; exact h0), e1 _ h0]
      exact hlen 0 h0 _
    rw [hlen i hi' hi, hd]
    refine ⟨h.1, h.2.1, h.2.2.1, fun v hv => ?_⟩
    rw [addRows_at i hi' hi] at hv
    unfold updRow at hv
    rcases List.mem_or_eq_of_mem_set hv with h1 | h1
    · exact h.2.2.2 v h1
    · subst h1
      exact (fitsB_iff _).1 (hf i hi')
theorem lv_Clone {lvs : List Lv} {H : Hp} (h0 : lvs ≠ []) (hl : lvs.length ≤ 1000) : TV.S 26 [.one (.c (.arr (lvs.map cLv)))] H = some (.one (.sl (H.length + 1) 0 lvs.length lvs.length), H ++ [.clo [] false, .clo (lvs.map cLv) false]) := by
  refine run26 (by simp) (by simp) ?_
  have hal : ∀ x ∈ lvs.map cLv, x.length = 3 := fun x hx => by obtain ⟨y, _, rfl⟩ := List.mem_map.1 hx; rfl
  have ha := vappend_eq (P := Tryd.prog) (H := H ++ [.clo [] false, .clo [] false]) (t := 31) (tx := 31) (id := H.length + 1) (n := 0) (l := []) (xs := lvs.map cLv) (x := .one (.c (.arr (lvs.map cLv)))) es31 es31 el41
    (by simp) rfl rfl (by simp) hal (by simp; omega) (by simp; omega)
  obtain ⟨x, t, rfl⟩ : ∃ h t, lvs = h :: t := by cases lvs with | nil => exact absurd rfl h0 | cons h t => exact ⟨h, t, rfl⟩
  simp at ha
  simp [Tryd.f26, vmove, isNil, bin_sln es31, bs_zero es31 el41, ha]
theorem univ_Add_arg {s : Us} {key : ByteArray} (g : UGood s) (hok : uOk s = false) : TV.pu 15 [.agg (cUs s), cS key] = some (.tup [(true, cUs (0, 0, [])), (false, [.v (.int .i64 1)])]) := by
  refine run15 (by simp) ?_
  have hR := univ_Right g
  rw [hok] at hR
  simp only [cUs] at hR
  simp [Tryd.f15, cUs, hR, vstore, cellsOf?, Ent.wrO, wr, vmove, isNil]
  simp [qa]
/-- The memory of a sketch while a key comes: the sketch, its answer, its levels. -/
structure UH (sd room : Int) (n z o o2 d : Nat) (Ls : List (List CV)) (H : Hp) : Prop where
  gz : H[z]? = some (.opn [[.c (.v (.int .u64 sd)), .c (.v (.int .i64 room)), .sl d 0 n n]] false)
  go : H[o]? = some (.opn [[.c (.v (.int .u64 0)), .c (.v (.int .i64 0)), .sl o2 0 0 0]] false)
  g2 : H[o2]? = some (.clo [] false)
  gd : H[d]? = some (.clo Ls false)
  nd : z ≠ d ∧ o ≠ d ∧ o2 ≠ d ∧ z ≠ o
section
variable {sd room : Int} {n z o o2 d : Nat} {Ls : List (List CV)} {H : Hp}
theorem gapp {G : Hp} {i : Nat} {e : Ent} (T : Hp) (h : G[i]? = some e) : (G ++ T)[i]? = some e := by rw [List.getElem?_append_left (List.getElem?_eq_some_iff.1 h).1]; exact h
theorem glt {G : Hp} {i : Nat} {e : Ent} (h : G[i]? = some e) : i < G.length := (List.getElem?_eq_some_iff.1 h).1
theorem UH.app (h : UH sd room n z o o2 d Ls H) (T : Hp) : UH sd room n z o o2 d Ls (H ++ T) := ⟨gapp T h.gz, gapp T h.go, gapp T h.g2, gapp T h.gd, h.nd⟩
theorem frz_at {G : Hp} {a b : Nat} (h : b ≠ a) : (frzAll G [a])[b]? = G[b]? := by
  simp only [frzAll, List.foldl_cons, List.foldl_nil, List.getElem?_modify]
  cases G[b]? with
  | none => rfl
  | some e => simp [Ne.symm h]
theorem UH.frz (h : UH sd room n z o o2 d Ls H) {a : Nat} (hz : z ≠ a) (ho : o ≠ a) (h2 : o2 ≠ a) (hd : d ≠ a) : UH sd room n z o o2 d Ls (frzAll H [a]) :=
  ⟨by rw [frz_at hz]; exact h.gz, by rw [frz_at ho]; exact h.go, by rw [frz_at h2]; exact h.g2, by rw [frz_at hd]; exact h.gd, h.nd⟩
theorem sget {G : Hp} {a b : Nat} {e : Ent} (h : a ≠ b) : (G.set a e)[b]? = G[b]? := List.getElem?_set_ne h
theorem sself {G : Hp} {a : Nat} {e x : Ent} (h : G[a]? = some x) : (G.set a e)[a]? = some e := List.getElem?_set_self (glt h)
theorem UH.setd (h : UH sd room n z o o2 d Ls H) (Ls' : List (List CV)) : UH sd room n z o o2 d Ls' (H.set d (.clo Ls' false)) :=
  ⟨by rw [sget (Ne.symm h.nd.1)]; exact h.gz, by rw [sget (Ne.symm h.nd.2.1)]; exact h.go, by rw [sget (Ne.symm h.nd.2.2.1)]; exact h.g2, sself h.gd, h.nd⟩
end
open Classical in
theorem univ_Add {s : Us} {key : ByteArray} (g : UGood s) (hs : key.size ≤ 140737488351232) (u : UOk s) : TV.pu 15 [.agg (cUs s), cS key] = some (if fitU s key then .tup [(true, cUs (uAdd s key)), (false, [.v (.int .i64 0)])] else .tup [(true, cUs (0, 0, [])), (false, [.v (.int .i64 5)])]) := by
  refine run15 (by simp) ?_
  have hR := univ_Right g
  rw [uOk_iff.2 u] at hR
  obtain ⟨res, hres⟩ : ∃ res, (if fitU s key then CA.tup [(true, cUs (uAdd s key)), (false, [.v (.int .i64 0)])] else .tup [(true, cUs (0, 0, [])), (false, [.v (.int .i64 5)])]) = res := ⟨_, rfl⟩
  rw [hres]
  have hlr := uLev_range u.l1 key
  have hll := lvTo_len s key
  have hl0 := lvTo_zero s key
  have hls := lvTo_set s key
  have hla := lvTo_at s key
  obtain ⟨sd, room, lvs⟩ := s
  have s0 : 0 ≤ sd := g.s0
  have s1 : sd < 18446744073709551616 := g.s1
  have l1 : 1 ≤ lvs.length := u.l1
  have l2 : lvs.length ≤ 16 := u.l2
  have r1 : 1 ≤ room := u.r1
  have r2 : room ≤ 64 := u.r2
  have hC := fun H => lv_Clone (lvs := lvs) (H := H) (by rintro rfl; simp at l1) (by omega)
  have hV := fun H h => univ_levelS (sd := sd) (room := room) (n := lvs.length) (d := 4) (Ls := lvs.map cLv) (key := key) (H := H) s0 s1 h (by simp) (by omega) hs
  obtain ⟨lev, hlv⟩ : ∃ lev : Nat, uLev (sd, room, lvs) key = (lev : Int) := ⟨_, (Int.toNat_of_nonneg hlr.1).symm⟩
  have hlv2 : hlev (hrow sd 0) key ((lvs.length : Int) - 1) = (lev : Int) := hlv
  rw [hlv] at hlr
  have hlt : lev < lvs.length := by have := hlr.2; show lev < (sd, room, lvs).2.2.length; omega
  have w21 : IntKind.i64.wrap ((lev : Int) + 1) = ((lev + 1 : Nat) : Int) := by rw [w64_id (by omega) (by omega)]; omega
  simp only [cUs] at hR
  simp -implicitDefEqProofs [Tryd.f15, cUs, hR, hC, hV, hlv2, w21, vstore, cellsOf?, Ent.wrO, wr, vmove, isNil]
  obtain ⟨I, hI⟩ : ∃ I : Nat → St → Prop, ∀ k s', I k s' ↔ (∃ e i H z o o2 d, s' = ⟨e, H⟩ ∧ e 1 = vS key ∧ e 2 = .one (.ptr ⟨z, 0, 0, 1⟩) ∧ e 4 = .one (.ptr ⟨o, 0, 0, 1⟩) ∧ e 21 = vI .i64 ((lev + 1 : Nat) : Int) ∧ e 22 = vI .i64 (i : Nat) ∧ (i + k = lev + 1) ∧ (UH sd room lvs.length z o o2 d ((lvTo (sd, room, lvs) key i).map cLv) H) ∧ (∀ j, ∀ h : j < lvs.length, j < i → fitL key lvs[j])) := ⟨_, fun _ _ => Iff.rfl⟩
  refine wpL_ind I ?_ (lev + 1) _ ((hI _ _).2 ⟨_, 0, _, 0, 1, 2, 4, (by first | rfl | (simp; done) | (simp; rfl) | (simp; and_intros <;> rfl)), by simp, by simp, by simp, by simp, by simp, by omega, ⟨rfl, rfl, rfl, by rw [hl0]; rfl, by decide⟩, fun j _ h => absurd h (Nat.not_lt_zero _)⟩)
  intro k stI hstI
  obtain ⟨e, i, H, z, o, o2, d, rfl, e1, e2, e4, e21, e22, hk, hU, hfit⟩ := (hI _ _).1 hstI
  obtain ⟨gz, go, g2, gd, nd⟩ := hU
  by_cases c : i < lev + 1
  rotate_left
  · have hi : i = lev + 1 := by omega
    subst hi
    have hf : fitU (sd, room, lvs) key := fun j h hj => by
      rw [hlv] at hj
      exact hfit j h (by omega)
    have hUa : cUs (uAdd (sd, room, lvs) key) = [.v (.int .u64 sd), .v (.int .i64 room), .arr ((lvTo (sd, room, lvs) key (lev + 1)).map cLv)] := by
      unfold uAdd
      rw [hlv]
      rfl
    rw [if_pos hf, hUa] at hres
    rw [← hres]
    obtain ⟨Ls, hLs⟩ : ∃ Ls, (lvTo (sd, room, lvs) key (lev + 1)).map cLv = Ls := ⟨_, rfl⟩
    have hLl : Ls.length = lvs.length := by rw [← hLs, List.length_map]; exact hll _
    rw [hLs] at gd ⊢
    have htk : Ls.take lvs.length = Ls := List.take_of_length_le (by omega)
    have hso : ∀ E, (H.set o E)[o]? = some E := fun E => sself go
    have hsd : ∀ E, (H.set o E)[d]? = some (.clo Ls false) := fun E => by rw [sget nd.2.1]; exact gd
    simp -implicitDefEqProofs [e2, e4, e21, e22, gz, go, hso, vstore, cellsOf?, Ent.wrO, wr, vmove, isNil]
    simp [qa, hsd, hLl, htk]
  have hil : i < lvs.length := by omega
  have L := u.lv i hil
  have lg := g.lv lvs[i] (List.getElem_mem hil)
  have hrw : ((lvTo (sd, room, lvs) key i).map cLv)[i]? = some (cLv lvs[i]) := by
    have h := hla i hil
    rw [List.getElem?_map, List.getElem?_eq_getElem (by rw [hll]; exact hil), h]
    rfl
  have hst : ((lvTo (sd, room, lvs) key i).map cLv).set i (cLv (updL room key lvs[i])) = (lvTo (sd, room, lvs) key (i + 1)).map cLv := by
    rw [← List.map_set]
    congr 1
    exact hls i hil
  have hfi : fitU (sd, room, lvs) key → fitL key lvs[i] := fun h => h i hil (by rw [hlv]; omega)
  have L' : LvOk (sd, room, lvs) i lvs[i] := L
  obtain ⟨l, hl⟩ : ∃ l, lvs[i] = l := ⟨_, rfl⟩
  rw [hl] at L' lg hrw hst hfi
  obtain ⟨Ls, hLs⟩ : ∃ Ls, (lvTo (sd, room, lvs) key i).map cLv = Ls := ⟨_, rfl⟩
  have hLl : Ls.length = lvs.length := by rw [← hLs, List.length_map]; exact hll _
  rw [hLs] at gd hrw hst
  obtain ⟨ls, lr, lt⟩ := l
  obtain ⟨hLi, hLr⟩ := List.getElem?_eq_some_iff.1 hrw
  have hA := signed_Add (seed := ls) (rows := lr) (key := key) (n := 1) lg.1 lg.2.1 hs L'.ok (by decide)
  have w_i : IntKind.i64.wrap ((i : Int) + 1) = ((i + 1 : Nat) : Int) := by rw [w64_id (by omega) (by omega)]; omega
  have c' : (i : Int) < (lev : Int) + 1 := by omega
  have ez := fun T => gapp T gz
  have eo := fun T => gapp T go
  have ed := fun T => gapp T gd
  by_cases hf : fitL key (ls, lr, lt)
  rotate_left
  · have hf' : ¬ ∀ j, ∀ h : j < lr.length, fitsB (newV ls key 1 (j : Int) lr[j]) = true := hf
    rw [if_neg hf'] at hA
    have hnf : ¬ fitU (sd, room, lvs) key := fun h => hf (hfi h)
    rw [if_neg hnf] at hres
    rw [← hres]
    simp only [cSk, cRows, cRow, List.map_nil] at hA
    simp only [cLv, cRows, cRow, cItms] at hLr
    have hol : o < H.length := glt go
    have so := fun T E => sself (e := E) (eo T)
    have sn : ∀ a b q E, ((H ++ [a, b, q]).set o E)[H.length + 2]? = some q := fun a b q E => by rw [sget (by omega)]; simp
    simp -implicitDefEqProofs [e1, e2, e4, e21, e22, c', gz, gd, eo, so, hLl, hLr, hil, hA, vstore, cellsOf?, Ent.wrO, wr, vmove, isNil]
    have sn2 : ∀ a b q E, ∀ h : H.length + 2 < ((H ++ [a, b, q]).set o E).length, ((H ++ [a, b, q]).set o E)[H.length + 2]'h = q := fun a b q E h => by
      have := sn a b q E
      rw [List.getElem?_eq_getElem h] at this
      exact Option.some.inj this
    simp [qa, sn2]
    rfl
  have hf' : ∀ j, ∀ h : j < lr.length, fitsB (newV ls key 1 (j : Int) lr[j]) = true := hf
  rw [if_pos hf'] at hA
  have oN := okR_add (key := key) (n := 1) (seed := ls) L'.ok hf'
  have hG := signed_Get (seed := ls) (rows := addRows ls key 1 lr) (key := key) lg.1 lg.2.1 hs oN
  obtain ⟨cnt, hcnt⟩ : ∃ cnt, med (getL ls key (addRows ls key 1 lr)) = cnt := ⟨_, rfl⟩
  rw [hcnt] at hG
  have hupd : cLv (updL room key (ls, lr, lt)) = [.v (.int .u64 ls), cRows (addRows ls key 1 lr), cItms (refOffer room lt key cnt).1] := by rw [← hcnt]; rfl
  rw [hupd] at hst
  obtain ⟨R', hR'⟩ : ∃ R', addRows ls key 1 lr = R' := ⟨_, rfl⟩
  rw [hR'] at hA hG hst
  simp only [cSk, cRows, cRow] at hA hG hst
  simp only [cLv, cRows, cRow, cItms] at hLr
  obtain ⟨E7, hE7⟩ : ∃ E7, Ent.opn [[.c (.v (.int .u64 ls)), .c (.arr (R'.map fun r => [.arr (r.map cInt)]))]] false = E7 := ⟨_, rfl⟩
  obtain ⟨a, Z, eOf, l', M, G, rfl, rfl, T⟩ := of_yes (room := room) (H := H ++ [E7, .clo [] false]) (l := lt) r1 r2 (by have := L'.room; have h : (lt.length : Int) ≤ room := this; omega)
  rw [refAll_self L'.srt L'.keys L'.room] at T
  simp only [cItms] at eOf
  obtain ⟨b, l2, M2, G2, eO, v2, o2'⟩ := offerZ (K := H ++ [E7, .clo [] false]) (L := G) r1 T.inv (by have := T.few; have h := L'.room; have : (lt.length : Int) ≤ room := h; omega) key cnt
  obtain ⟨T2, -⟩ := T.step v2 o2'
  have eL := listZ (K := H ++ [E7, .clo [] false]) (room := room) (l := l2) (M := M2) (L := G ++ G2) (by have := T2.few; have h := L'.room; have : (lt.length : Int) ≤ room := h; omega)
  rw [T2.like.isort] at eL
  have hml : l2.length = (refOffer room lt key cnt).1.length := T2.like.perm.length_eq
  rw [hml] at eL
  obtain ⟨m, hm⟩ : ∃ m, (refOffer room lt key cnt).1 = m := ⟨_, rfl⟩
  rw [hm] at eL hst
  -- the memory after each call, by name
  have hlen : (H ++ [E7, Ent.clo [] false]).length = H.length + 2 := by simp
  have z7 : ∀ l M G, (hZ (H ++ [E7, .clo [] false]) room l M G)[H.length]? = some E7 := fun l M G => by
    unfold hZ
    rw [List.getElem?_append_left (by simp)]
    simp
  have zU : ∀ l M G, UH sd room lvs.length z o o2 d Ls (hZ (H ++ [E7, .clo [] false]) room l M G) := fun l M G => by
    unfold hZ
    exact UH.app (UH.app ⟨gz, go, g2, gd, nd⟩ _) _
  have zI : (hZ (H ++ [E7, .clo [] false]) room l2 M2 (G ++ G2 ++ [.clo [] false, .clo [] false, .clo (m.map cItm) false]))[(H ++ [E7, Ent.clo [] false]).length + (G ++ G2).length + 5]? = some (.clo (m.map cItm) false) := by
    rw [show (H ++ [E7, Ent.clo [] false]).length + (G ++ G2).length + 5 = (H ++ [E7, Ent.clo [] false]).length + ((G ++ G2).length + 2) + 3 by omega, hZ_get, List.getElem?_append_right (by omega)]
    simp
  obtain ⟨id, hid⟩ : ∃ id, (H ++ [E7, Ent.clo [] false]).length + (G ++ G2).length + 5 = id := ⟨_, rfl⟩
  rw [hid] at eL zI
  have hidl : H.length < id := by rw [← hid, hlen]; omega
  obtain ⟨pid, hpid⟩ : ∃ pid, (H ++ [E7, Ent.clo [] false]).length + 2 = pid := ⟨_, rfl⟩
  rw [hpid] at eOf eO eL
  have U1 := zU l' M G
  have U2 := zU l2 M2 (G ++ G2)
  have U3 := zU l2 M2 (G ++ G2 ++ [.clo [] false, .clo [] false, .clo (m.map cItm) false])
  have q1 := z7 l' M G
  have q2 := z7 l2 M2 (G ++ G2)
  have q3 := z7 l2 M2 (G ++ G2 ++ [.clo [] false, .clo [] false, .clo (m.map cItm) false])
  obtain ⟨Z1, hZ1⟩ : ∃ Z1, hZ (H ++ [E7, .clo [] false]) room l' M G = Z1 := ⟨_, rfl⟩
  obtain ⟨Z2, hZ2⟩ : ∃ Z2, hZ (H ++ [E7, .clo [] false]) room l2 M2 (G ++ G2) = Z2 := ⟨_, rfl⟩
  obtain ⟨Z3, hZ3⟩ : ∃ Z3, hZ (H ++ [E7, .clo [] false]) room l2 M2 (G ++ G2 ++ [.clo [] false, .clo [] false, .clo (m.map cItm) false]) = Z3 := ⟨_, rfl⟩
  rw [hZ1] at eOf eO U1 q1
  rw [hZ2] at eO eL U2 q2
  rw [hZ3] at eL zI U3 q3
  rw [← hE7] at eOf q1 q2 q3
  have hmt : (m.map cItm).take m.length = m.map cItm := List.take_of_length_le (by simp)
  have hdid : d ≠ id := by have := glt gd; omega
  obtain ⟨u1z, u1o, u12, u1d, -⟩ := U1
  obtain ⟨u2z, u2o, u22, u2d, -⟩ := U2
  obtain ⟨u3z, u3o, u32, u3d, -⟩ := _root_.id U3
  simp only [hP] at eOf eO eL
  have v3z := fun T => gapp T u3z
  have v3d := fun T => gapp T u3d
  have v3q := fun T => gapp T q3
  have v3i := fun T => gapp T zI
  have hrch : ∀ T, rch 5 (Z3 ++ T) (.sl id 0 m.length m.length) = [id] := fun T => by simp [rch, v3i]
  have hwr : Ent.wrC Ls i 0 [.v (.int .u64 ls), .arr (R'.map fun r => [.arr (r.map cInt)]), .arr (m.map cItm)] = (lvTo (sd, room, lvs) key (i + 1)).map cLv := by
    rw [← hst]
    apply List.ext_getElem
    · simp [Ent.wrC]
    · intro j h1 h2
      simp only [Ent.wrC, List.getElem_modify, List.getElem_set]
      by_cases hj : i = j
      · subst hj
        rw [if_pos rfl, if_pos rfl, hLr]
        rfl
      · rw [if_neg hj, if_neg hj]
  obtain ⟨L2, hL2⟩ : ∃ L2, (lvTo (sd, room, lvs) key (i + 1)).map cLv = L2 := ⟨_, rfl⟩
  rw [hL2] at hst hwr
  have hL2l : L2.length = lvs.length := by rw [← hst, List.length_set, hLl]
  have hL2i : L2[i]? = some [.v (.int .u64 ls), .arr (R'.map fun r => [.arr (r.map cInt)]), .arr (m.map cItm)] := by rw [← hst]; exact List.getElem?_set_self (by omega)
  have nz : z ≠ id := by have := glt gz; omega
  have no : o ≠ id := by have := glt go; omega
  have n2 : o2 ≠ id := by have := glt g2; omega
  have UN := (((UH.app U3 [.clo [] false, .clo [] false]).frz nz no n2 hdid).setd L2)
  have fz := UN.gz
  have fd := UN.gd
  have fq : ((frzAll (Z3 ++ [.clo [] false, .clo [] false]) [id]).set d (.clo L2 false))[H.length]? = some (Ent.opn [[.c (.v (.int .u64 ls)), .c (.arr (R'.map fun r => [.arr (r.map cInt)]))]] false) := by
    rw [sget (by have := glt gd; omega), frz_at (by omega)]
    exact v3q _
  simp -implicitDefEqProofs [e1, e2, e21, e22, c', gz, ez, ed, gd, hLl, hLr, hil, hA, eOf, q1, hG, eO, u2z, u2d, q2, eL, v3z, v3d, v3q, v3i, hmt, hdid, hrch, hwr, fz, fd, fq, hL2l, vstore, cellsOf?, Ent.wrO, wr, vmove, isNil]
  obtain ⟨hq1, hq2⟩ := List.getElem?_eq_some_iff.1 hL2i
  refine ⟨by rw [hq2]; rfl, k - 1, by omega, (hI _ _).2 ⟨_, i + 1, _, z, o, o2, d, rfl, by simp [e1], by simp [e2], by simp [e4], by simp [e21], by simp [w_i], by omega, by rw [hL2]; exact UN, fun j h hj => ?_⟩⟩
  by_cases e : j = i
  · subst e; rw [hl]; exact hf
  · exact hfit j h (by omega)
end Go.Proofs.YtngpmpmhpggpgaaDoorF
end

section
/- Items struck from a list: the machine's walk. -/
set_option maxRecDepth 8192
set_option maxHeartbeats 4000000
namespace Go.Proofs.YtngpmpmhpggpgaaDoorF
open Go Go.Proofs.Vm

theorem lam_most (x : Itm) (most : Int) : TV.pu 21 [.agg (cItm x), .one (.cptr [.v (.int .i64 most)])] = some (cB (decide (x.2 < most))) := by
  refine run21 (by simp) ?_
  simp -implicitDefEqProofs [Tryd.f21, cItm]
def keptI (most : Int) (l : List Itm) : List Itm := l.filter fun x => decide (most ≤ x.2)
theorem it_Clone {l : List Itm} {H : Hp} (h0 : l ≠ []) (hl : l.length ≤ 1000) : TV.S 20 [.one (.c (.arr (l.map cItm)))] H = some (.one (.sl (H.length + 1) 0 l.length l.length), H ++ [.clo [] false, .clo (l.map cItm) false]) := by
  obtain ⟨x, t, rfl⟩ : ∃ h t, l = h :: t := by cases l with | nil => exact absurd rfl h0 | cons h t => exact ⟨h, t, rfl⟩
  have hb : cfg.base.S 20 [.one (.c (.arr ((x :: t).map cItm)))] H = none := by
    simp [cfg, orTab, tzTab, sortTab, cloTab, cloRun, itmTab, clone0Run]
  refine run20 hb (by simp) (by simp) ?_
  have hal : ∀ y ∈ (x :: t).map cItm, y.length = 2 := fun y hy => by obtain ⟨z, _, rfl⟩ := List.mem_map.1 hy; rfl
  have ha := vappend_eq (P := Tryd.prog) (H := H ++ [.clo [] false, .clo [] false]) (t := 34) (tx := 34) (id := H.length + 1) (n := 0) (l := []) (xs := (x :: t).map cItm) (x := .one (.c (.arr ((x :: t).map cItm)))) es34 es34 el43
    (by simp) rfl rfl (by simp) hal (by simp at hl ⊢; omega) (by simp at hl ⊢; omega)
  simp at ha
  simp [Tryd.f20, vmove, isNil, bin_sln es34, bs_zero es34 el43, ha]
theorem it_Clone0 {H : Hp} : TV.S 20 [.one (.c (.arr []))] H = some (.one (.sl H.length 0 0 0), H ++ [.clo [] false]) :=
  TT_baseS (by simp [cfg, orTab, tzTab, sortTab, cloTab, cloRun])
theorem idx_cases (p : Itm → Bool) (l : List Itm) : (idxF p l = -1 ∧ ∀ x ∈ l, p x = false) ∨ ∃ q, ∃ h : q < l.length, idxF p l = (q : Int) ∧ p l[q] = true ∧ ∀ r, ∀ hr : r < q, p (l[r]'(by omega)) = false := by
  have main : ∀ n, n ≤ l.length → (∀ r, ∀ hr : r < l.length, r < n → p l[r] = false) ∨ ∃ q, ∃ h : q < l.length, p l[q] = true ∧ ∀ r, ∀ hr : r < q, p (l[r]'(by omega)) = false := by
    intro n
    induction n with
    | zero => exact fun _ => .inl fun r _ h => absurd h (Nat.not_lt_zero _)
    | succ n ih =>
      intro hn
      rcases ih (by omega) with h | h
      · by_cases hp : p l[n] = true
        · exact .inr ⟨n, by omega, hp, fun r hr => h r (by omega) hr⟩
        · refine .inl fun r hr hrn => ?_
          by_cases e : r = n
          · subst e; simpa using hp
          · exact h r hr (by omega)
      · exact .inr h
  rcases main l.length (Nat.le_refl _) with h | ⟨q, hq, h1, h2⟩
  · refine .inl ⟨idxF_none p l fun r hr x hx => ?_, fun x hx => ?_⟩
    · obtain ⟨hr2, rfl⟩ := List.getElem?_eq_some_iff.1 hx
      exact h r hr2 hr2
    · obtain ⟨i, hi, rfl⟩ := List.getElem_of_mem hx
      exact h i hi hi
  · exact .inr ⟨q, hq, idxF_at p l q hq h1 fun r hr x hx => by
      obtain ⟨_, rfl⟩ := List.getElem?_eq_some_iff.1 hx
      exact h2 r hr, h1, h2⟩
theorem sl_from {P : Program} {H : Hp} {t e sz nid : Nat} (he : elemOfSlice P t = some e) (hs : pv P (sizeOf e) = some sz) {id n tot k : Nat} (hl : lenIs H id tot = true) (h1 : k < n) (h2 : elAt H id tot k = some sz) : vslice P H nid t (.one (.sl id 0 n tot)) (some (vI .i64 (k : Int))) none none = qa (.one (.sl id k (n - k) tot)) := by
  unfold vslice
  simp only [he, hs, optInt, Option.getD_none, Option.getD_some]
  rw [if_pos ⟨hl, by omega, by omega, by omega, .inr (by simpa using h2)⟩]
  simp
theorem sl_to {P : Program} {H : Hp} {t e sz nid : Nat} (he : elemOfSlice P t = some e) (hs : pv P (sizeOf e) = some sz) {id n tot k : Nat} (hl : lenIs H id tot = true) (h1 : k ≤ n) (h2 : elAt H id tot 0 = some sz) : vslice P H nid t (.one (.sl id 0 n tot)) none (some (vI .i64 (k : Int))) none = qa (.one (.sl id 0 k tot)) := by
  unfold vslice
  simp only [he, hs, optInt, Option.getD_none, Option.getD_some]
  rw [if_pos ⟨hl, by omega, by omega, by omega, .inr (by simpa using h2)⟩]
  simp
theorem wr_len' {α : Type} : ∀ (r l : List α) (o : Nat), (wr l o r).length = l.length
  | [], _, _ => rfl
  | x :: r, l, o => by
    show (wr (l.set o x) (o + 1) r).length = _
    rw [wr_len' r, List.length_set]
theorem wr_all {α : Type} {q : α → Prop} : ∀ {r : List α}, (∀ x ∈ r, q x) → ∀ (l : List α) (o : Nat), (∀ x ∈ l, q x) → ∀ x ∈ wr l o r, q x
  | [], _, _, _, hl => hl
  | y :: r, hr, l, o, hl => wr_all (r := r) (fun x hx => hr x (List.mem_cons_of_mem _ hx)) (l.set o y) (o + 1) fun x hx => by
    rcases List.mem_or_eq_of_mem_set hx with h | h
    · exact hl x h
    · subst h; exact hr _ List.mem_cons_self
theorem wr_take' {α : Type} : ∀ (r l : List α) (o k : Nat), k ≤ o → (wr l o r).take k = l.take k
  | [], _, _, _, _ => rfl
  | x :: r, l, o, k, h => by
    show (wr (l.set o x) (o + 1) r).take k = _
    rw [wr_take' r _ _ _ (by omega)]
    apply List.ext_getElem?
    intro i
    simp only [List.getElem?_take]
    split
    · rw [List.getElem?_set_ne (by omega)]
    · rfl
theorem del_items {l : List Itm} {d p : Nat} {most : Int} {H : Hp} (hd : H[d]? = some (.clo (l.map cItm) false)) (hp : H[p]? = some (.opn [[.c (.v (.int .i64 most))]] false)) (hl : l.length < 1000) :
    ∃ a K, TV.S 19 [.one (.sl d 0 l.length l.length), .one (.fn 21 [.inr ⟨p, 0, 0, 1⟩])] H = some (a, K) ∧ (H.length ≤ K.length ∧ a = .one (.sl d 0 (keptI most l).length l.length) ∧ ∃ A, K[d]? = some (.clo A false) ∧ A.length = l.length ∧ A.take (keptI most l).length = (keptI most l).map cItm) := by
  refine runX19 (by simp) (by rintro a K ⟨h, _⟩; exact h) ?_
  have hI := index_itms (g := .fn 21 [.cptr [.v (.int .i64 most)]]) rfl (p := fun x => decide (x.2 < most)) (r := l) (fun x _ => lam_most x most) (by omega)
  simp only [cItms] at hI
  have ad : ∀ T : Hp, (H ++ T)[d]? = some (.clo (l.map cItm) false) := fun T => by rw [List.getElem?_append_left (List.getElem?_eq_some_iff.1 hd).1]; exact hd
  have ap : ∀ T : Hp, (H ++ T)[p]? = some (.opn [[.c (.v (.int .i64 most))]] false) := fun T => by rw [List.getElem?_append_left (List.getElem?_eq_some_iff.1 hp).1]; exact hp
  have hll : (l.map cItm).take l.length = l.map cItm := List.take_of_length_le (by simp)
  simp -implicitDefEqProofs [Tryd.f19, ad, ap, hI, hll, vmove, isNil]
  have kept_eq : ∀ m : List Itm, keptI most m = m.filter fun x => decide (most ≤ x.2) := fun _ => rfl
  rcases idx_cases (fun x => decide (x.2 < most)) l with ⟨h1, h2⟩ | ⟨q, hq, h1, h2, h3⟩
  · rw [if_pos h1]
    have hk : keptI most l = l := List.filter_eq_self.2 fun x hx => decide_eq_true (by have := of_decide_eq_false (h2 x hx); omega)
    rw [hk]
    exact ⟨rfl, hll⟩
  have hq1 : ¬ ((q : Int) = -1) := by omega
  have h2' : l[q].2 < most := of_decide_eq_true h2
  rw [h1, if_neg hq1]
  have w0 : IntKind.i64.wrap ((q : Int) + 1) = ((q + 1 : Nat) : Int) := by rw [w64_id (by omega) (by omega)]; omega
  rw [w0]
  obtain ⟨I, hI⟩ : ∃ I : Nat → St → Prop, ∀ k s', I k s' ↔ (∃ e G A i j, s' = ⟨e, G⟩ ∧ e 0 = .one (.sl d 0 l.length l.length) ∧ e 1 = .one (.fn 21 [.inr ⟨p, 0, 0, 1⟩]) ∧ e 5 = vI .i64 (i : Nat) ∧ e 6 = vI .i64 (j : Nat) ∧ (j + k = l.length) ∧ (i < j) ∧ (H.length ≤ G.length) ∧ (G[d]? = some (.clo (List.map cItm A) false)) ∧ (G[p]? = some (.opn [[.c (.v (.int .i64 most))]] false)) ∧ (A.length = l.length) ∧ (A.take i = keptI most (l.take j)) ∧ (A.drop j = l.drop j)) := ⟨_, fun _ _ => Iff.rfl⟩
  refine wpL_ind I ?_ (l.length - (q + 1)) _ ((hI _ _).2 ⟨_, _, l, q, q + 1, (by first | rfl | (simp; done) | (simp; rfl) | (simp; and_intros <;> rfl)), by simp, by simp, by simp, by simp, by omega, by omega, by simp, ad _, ap _, rfl, by rw [kept_eq, List.take_add_one, List.getElem?_eq_getElem hq, List.filter_append, List.filter_eq_self.2 fun x hx => by (obtain ⟨r, hr, rfl⟩ := List.mem_take_iff_getElem.1 hx; have := of_decide_eq_false (h3 r (by omega)); exact decide_eq_true (by omega))]; simp [h2'], rfl⟩)
  intro k stI hstI
  obtain ⟨e, G, A, i, j, rfl, e0, e1, e5, e6, hk, hij, gl, gd, gp, hA, hA1, hA2⟩ := (hI _ _).1 hstI
  have gdl := (List.getElem?_eq_some_iff.1 gd).1
  have ad' : ∀ T : Hp, (G ++ T)[d]? = some (.clo (List.map cItm A) false) := fun T => by rw [List.getElem?_append_left gdl]; exact gd
  have ap' : ∀ T : Hp, (G ++ T)[p]? = some (.opn [[.c (.v (.int .i64 most))]] false) := fun T => by rw [List.getElem?_append_left (List.getElem?_eq_some_iff.1 gp).1]; exact gp
  have hAm : (A.map cItm).length = l.length := by rw [List.length_map, hA]
  have hpd : p ≠ d := fun e => by rw [e, gd] at gp; cases gp
  by_cases c : j < l.length
  rotate_left
  · have hj : l.take j = l := List.take_of_length_le (by omega)
    rw [hj] at hA1
    have hki : (keptI most l).length = i := by rw [← hA1, List.length_take]; omega
    have b0 : ¬ i = l.length := by omega
    have hle : lenIs G d l.length = true := by simp [lenIs, gd, hAm]
    have hel : ∀ K : Hp, ∀ B : List (List CV), K[d]? = some (.clo B false) → B.length = l.length → (∀ x ∈ B, x.length = 2) → ∀ q, q < l.length → elAt K d l.length q = some 2 := fun K B hK hB hx q hq => by
      have hq' : q < B.length := by omega
      simp only [elAt, hK, hB, if_true, List.getElem?_eq_getElem hq', Option.map_some]
      rw [hx _ (List.getElem_mem hq')]
    have hA2' : ∀ x ∈ A.map cItm, x.length = 2 := fun x hx => by obtain ⟨y, _, rfl⟩ := List.mem_map.1 hx; rfl
    have hf := sl_from (P := Tryd.prog) (nid := G.length) es34 sz43 hle (show i < l.length by omega) (hel G _ gd hAm hA2' i (by omega))
    obtain ⟨B, hB⟩ : ∃ B, wr (A.map cItm) i (List.replicate (l.length - i) [CV.v (.string ByteArray.empty), .v (.int .i64 0)]) = B := ⟨_, rfl⟩
    have hBl : B.length = l.length := by rw [← hB, wr_len', hAm]
    have hBt : B.take i = (A.map cItm).take i := by rw [← hB, wr_take' _ _ _ _ (Nat.le_refl _)]
    have hcl : vclear Tryd.prog G 34 (.one (.sl d i (l.length - i) l.length)) = some (und, G.set d (.clo B false)) := by
      obtain ⟨z, hz, hz2⟩ : ∃ z, pv Tryd.prog (zeroValue 43) = some z ∧ z.cells.toList = [.string ByteArray.empty, .int .i64 0] := ⟨(pv Tryd.prog (zeroValue 43)).getD (.bool false), by kernel_rfl, by kernel_rfl⟩
      have hz3 : z.cells.size = 2 := by rw [← Array.length_toList, hz2]; rfl
      rw [← hB]
      unfold vclear
      simp only [es34, gd, hz]
      rw [hz2, hz3, if_pos ⟨hAm, by omega, by decide, hA2'⟩]
      rfl
    have gK : (G.set d (.clo B false))[d]? = some (.clo B false) := sself gd
    have hle2 : lenIs (G.set d (.clo B false)) d l.length = true := by simp [lenIs, gK, hBl]
    have hto := sl_to (P := Tryd.prog) (nid := G.length) es34 sz43 hle2 (show i ≤ l.length by omega) (hel _ _ gK hBl (fun x hx => by rw [← hB] at hx; exact wr_all (fun y hy => by rw [List.eq_of_mem_replicate hy]; rfl) _ _ hA2' x hx) 0 (by omega))
    simp -implicitDefEqProofs [e0, e5, e6, c, gd, hAm, hf, hcl, hto, gK, vmove, isNil]
    refine ⟨gl, hki.symm, hBl, ?_⟩
    rw [hki, hBt, ← List.map_take, hA1]
  have hjA : j < A.length := by omega
  have hAj : A[j] = l[j] := by
    have h1 : (A.drop j)[0]? = (l.drop j)[0]? := by rw [hA2]
    rw [List.getElem?_drop, List.getElem?_drop, Nat.add_zero, List.getElem?_eq_getElem hjA, List.getElem?_eq_getElem c] at h1
    exact Option.some.inj h1
  have hAjq : (A.map cItm)[j]? = some [.v (.string l[j].1), .v (.int .i64 l[j].2)] := by rw [List.getElem?_map, List.getElem?_eq_getElem hjA, hAj]; rfl
  have hL1 := lam_most l[j] most
  simp only [cItm] at hL1
  have w_j : IntKind.i64.wrap ((j : Int) + 1) = ((j + 1 : Nat) : Int) := by rw [w64_id (by omega) (by omega)]; omega
  have htk : keptI most (l.take (j + 1)) = keptI most (l.take j) ++ if most ≤ l[j].2 then [l[j]] else [] := by
    rw [kept_eq, List.take_add_one, List.getElem?_eq_getElem c, List.filter_append]
    by_cases h : most ≤ l[j].2 <;> simp [h, kept_eq]
  have hdr : A.drop (j + 1) = l.drop (j + 1) := by
    have := congrArg (List.drop 1) hA2
    rwa [List.drop_drop, List.drop_drop] at this
  by_cases h : l[j].2 < most
  · rw [if_neg (by omega), List.append_nil] at htk
    simp -implicitDefEqProofs [e0, e1, e6, c, hAj, gd, hAm, cItm, ap', vcall, calleeOf, hL1, h, vstore, cellsOf?, Ent.wrO, wr, vmove, isNil]
    exact ⟨k - 1, by omega, (hI _ _).2 ⟨_, _, A, i, j + 1, (by first | rfl | (simp [e0, e1, e5, w_j]; done) | (simp [e0, e1, e5, w_j]; rfl) | (simp [e0, e1, e5, w_j]; and_intros <;> rfl)), by simp [e0, w_j], by simp [e1, w_j], by simp [e5, w_j], by simp [w_j], by omega, by omega, by simp; omega, ad' _, ap' _, hA, by rw [htk]; exact hA1, hdr⟩⟩
  · rw [if_pos (by omega)] at htk
    have hiA : i < A.length := by omega
    have hil : i < l.length := by omega
    have hil' : (i : Int) < l.length := by omega
    have w_i : IntKind.i64.wrap ((i : Int) + 1) = ((i + 1 : Nat) : Int) := by rw [w64_id (by omega) (by omega)]; omega
    simp -implicitDefEqProofs [e0, e1, e5, e6, c, hAj, gd, hAm, cItm, ad', ap', vcall, calleeOf, hL1, h, hil, w_i, w_j, vstore, cellsOf?, Ent.wrO, wr, vmove, isNil]
    have hwr : Ent.wrC (List.map cItm A) i 0 [CV.v (Value.string l[j].1), CV.v (Value.int IntKind.i64 l[j].2)] = (A.set i l[j]).map cItm := by
      apply List.ext_getElem?
      intro a
      rw [wrC_get, List.getElem?_map, List.getElem?_map, List.getElem?_set]
      by_cases e : i = a
      · subst e
        simp [cItm, wr, hiA]
      · simp [e]
    rw [hwr]
    refine ⟨k - 1, by omega, (hI _ _).2 ⟨_, _, A.set i l[j], i + 1, j + 1, (by first | rfl | (simp [e0, e1]; done) | (simp [e0, e1]; rfl) | (simp [e0, e1]; and_intros <;> rfl)), by simp [e0], by simp [e1], by simp, by simp, by omega, by omega, by simp; omega, sself (ad' _), by rw [sget (Ne.symm hpd)]; exact ap' _, by rw [List.length_set]; exact hA, by rw [htk, ← hA1, List.take_add_one, List.getElem?_set_self hiA, List.take_set_of_le (Nat.le_refl _)]; rfl, by rw [List.drop_set_of_lt (by omega)]; exact hdr⟩⟩
end Go.Proofs.YtngpmpmhpggpgaaDoorF
end

section
/- A sketch's list. -/
set_option maxRecDepth 8192
set_option maxHeartbeats 4000000
namespace Go.Proofs.YtngpmpmhpggpgaaDoorF
open Go Go.Proofs.Vm

theorem univ_List {s : Us} {most : Int} (g : UGood s) : TV.pu 12 [.agg (cUs s), cI .i64 most] = some (.one (cItms (if uOk s = true then keptI most (s.2.2.headD (0, [], [])).2.2 else []))) := by
  refine run12 (by simp) ?_
  have hR := univ_Right g
  cases hok : uOk s with
  | false =>
    rw [hok] at hR
    obtain ⟨sd, room, lvs⟩ := s
    simp only [cUs] at hR
    simp -implicitDefEqProofs [Tryd.f12, cUs, hR, cItms, vmove, isNil]
  | true =>
  rw [hok] at hR
  have u := uOk_iff.1 hok
  have h0 : 0 < s.2.2.length := u.l1
  have hrm := (u.lv 0 h0).room
  have hr2 := u.r2
  rw [if_pos rfl, headD_at h0]
  obtain ⟨l0, hl0⟩ : ∃ l0, s.2.2[0] = l0 := ⟨_, rfl⟩
  have hl0' : s.2.2[0]? = some l0 := by rw [List.getElem?_eq_getElem h0, hl0]
  rw [hl0] at hrm ⊢
  obtain ⟨ls, lr, lt⟩ := l0
  obtain ⟨sd, room, lvs⟩ := s
  dsimp only at hrm hr2 hl0' h0 ⊢
  simp only [cUs] at hR
  have hll : lt.length ≤ 64 := by omega
  cases hlt : lt with
  | nil =>
    obtain ⟨a, K, hS, hK, rfl, A, hA1, hA2, hA3⟩ := del_items (l := []) (d := 3) (p := 1) (most := most) (H := [.opn [[.c (.v (.int .u64 sd)), .c (.v (.int .i64 room)), .c (.arr (lvs.map cLv))]] false, .opn [[.c (.v (.int .i64 most))]] false, .clo [] false, .clo [] false]) rfl rfl (by simp)
    have hC := fun H => it_Clone0 (H := H)
    have hA0 : A = [] := List.length_eq_zero_iff.1 hA2
    subst hA0
    have hk : keptI most [] = [] := rfl
    simp only [List.length_nil] at hS
    rw [hk, List.length_nil] at hS
    subst hlt
    simp -implicitDefEqProofs [Tryd.f12, cUs, hR, hC, hl0', hS, hA1, hk, cLv, cItms, vmove, isNil]
  | cons x r =>
    rw [← hlt]
    have hne : lt ≠ [] := by rw [hlt]; simp
    obtain ⟨a, K, hS, hK, rfl, A, hA1, hA2, hA3⟩ := del_items (l := lt) (d := 4) (p := 1) (most := most) (H := [.opn [[.c (.v (.int .u64 sd)), .c (.v (.int .i64 room)), .c (.arr (lvs.map cLv))]] false, .opn [[.c (.v (.int .i64 most))]] false, .clo [] false, .clo [] false, .clo (lt.map cItm) false]) rfl rfl (by omega)
    have hC := fun H => it_Clone (l := lt) (H := H) hne (by omega)
    simp -implicitDefEqProofs [Tryd.f12, cUs, hR, hC, hl0', hS, hA1, hA2, hA3, cLv, cItms, vmove, isNil]
end Go.Proofs.YtngpmpmhpggpgaaDoorF
end

section
/- A fixed answer; the laws of logarithms. -/
set_option maxRecDepth 8192
set_option maxHeartbeats 4000000
namespace Go.Proofs.YtngpmpmhpggpgaaDoorF
open Go Go.Proofs.Vm

theorem fed_Add {z : Sz} (h : ZOk z) {ks : List ByteArray} (hk : ks.length < 1000000) {k : ByteArray} (hs : k.size ≤ 140737488351232) : TV.pu 15 [.agg (cUs (uFed z ks)), cS k] = some (.tup [(true, cUs (uFed z (ks ++ [k]))), (false, [.v (.int .i64 0)])]) := by
  have := univ_Add (uFed_good h hk) hs (uFed_ok h hk)
  rw [if_pos (uFed_fit h hk k), uFed_add h] at this
  exact this
theorem law_awake18 : TV.pu 10 [] = some (cB true) := by
  refine run10 (by simp) ?_
  have hz : ZOk ⟨1, 2, 3, 8, 4⟩ := ⟨by decide, by decide, by decide, by decide, by unfold newOk; decide, by decide, by decide⟩
  have a0 := univ_New hz
  obtain ⟨ky, hky⟩ : ∃ ky : ByteArray, ky = { data := #[97] } := ⟨_, rfl⟩
  have hks : ky.size ≤ 140737488351232 := by rw [hky]; decide
  have a1 := fed_Add hz (ks := []) (by simp) hks
  have a2 := fed_Add hz (ks := [] ++ [ky]) (by simp) hks
  have g2 := uFed_good hz (ks := [] ++ [ky] ++ [ky]) (by simp)
  have u2 := uFed_ok hz (ks := [] ++ [ky] ++ [ky]) (by simp)
  have a3 := univ_Get (key := ky) g2 hks
  rw [if_pos (uOk_iff.2 u2)] at a3
  have h0 : 0 < (uFed ⟨1, 2, 3, 8, 4⟩ ([] ++ [ky] ++ [ky])).2.2.length := u2.l1
  have e2 : ([] ++ [ky] ++ [ky] : List ByteArray) = List.replicate 2 ky := rfl
  have hone := uFed_one hz ky 2 (by decide) (by rw [← e2]; exact h0)
  rw [headD_at h0] at a3
  simp only [e2] at a2 a3
  rw [hone] at a3
  have l2 : logI 2 = 65536 := logI_pow 1
  have hL := univ_Log (n := 2) (by decide)
  rw [l2] at hL
  have hC := univ_Count (kind := 3) (n := 2)
  have c2 : cntI 3 2 = 131072 := by
    have : clip 2 = 2 := by decide
    unfold cntI
    rw [this, l2]
    decide
  rw [c2] at hC
  obtain ⟨S0, hS0⟩ : ∃ S, uFed ⟨1, 2, 3, 8, 4⟩ [] = S := ⟨_, rfl⟩
  obtain ⟨S1, hS1⟩ : ∃ S, uFed ⟨1, 2, 3, 8, 4⟩ ([] ++ [ky]) = S := ⟨_, rfl⟩
  obtain ⟨S2, hS2⟩ : ∃ S, uFed ⟨1, 2, 3, 8, 4⟩ (List.replicate 2 ky) = S := ⟨_, rfl⟩
  rw [hS0] at a0 a1
  rw [hS1] at a1 a2
  rw [hS2] at a2 a3
  dsimp only at a0
  obtain ⟨s0, r0, v0⟩ := S0
  obtain ⟨s1, r1, v1⟩ := S1
  obtain ⟨s2, r2, v2⟩ := S2
  simp only [cUs] at a0 a1 a2 a3
  simp -implicitDefEqProofs [Tryd.f10, a0, ← hky, a1, a2, a3, hL, hC, vstore, cellsOf?, Ent.wrO, wr, vmove, isNil]
theorem law_logs {n kind : Int} (h1 : n < 9223372036854775808) : TV.pu 3 [cI .i64 n, cI .i64 kind] = some (cB true) := by
  refine run3 (by simp) ?_
  have hA := law_awake18
  have hL := univ_Log h1
  have hC := univ_Count (kind := kind) (n := n)
  have hD := r18_Count (kind := kind) h1
  by_cases c : 1 ≤ n
  · have hM := r18_Log c h1
    simp -implicitDefEqProofs [Tryd.f3, c, hA, hL, hC, hD, hM]
  · have hl0 : logI n = 0 := by unfold logI; rw [if_pos (by omega)]
    rw [hl0] at hL
    simp -implicitDefEqProofs [Tryd.f3, c, hA, hL, hC, hD]
theorem law_rises {a b k : Int} (ha : a < 9223372036854775808) (hb : b < 9223372036854775808) (hk0 : 0 ≤ k) (_hk1 : k < 256) : TV.pu 4 [cI .i64 a, cI .i64 b, cI .u8 k] = some (cB true) := by
  refine run4 (by simp) ?_
  have hA := law_awake18
  obtain ⟨n, hn⟩ : ∃ n : Nat, k % 63 = (n : Int) := ⟨(k % 63).toNat, by omega⟩
  have hn63 : n < 63 := by omega
  have htm : k.tmod 63 = (n : Int) := by rw [Int.tmod_eq_emod_of_nonneg hk0, hn]
  have wn : IntKind.i64.wrap (n : Int) = (n : Int) := w64_id (by omega) (by omega)
  have hp : 2 ^ n ≤ 2 ^ 62 := Nat.pow_le_pow_right (by decide) (by omega)
  obtain ⟨P, hP⟩ : ∃ P : Nat, 2 ^ n = P := ⟨_, rfl⟩
  have hPI : (2 : Int) ^ n = (P : Int) := by rw [← hP]; simp
  rw [hP] at hp
  have wp : IntKind.i64.wrap ((2 : Int) ^ n) = (P : Int) := by rw [hPI]; exact w64_id (by omega) (by omega)
  have hmin : min n 64 = n := by omega
  have hLp := univ_Log (n := (P : Int)) (by omega)
  have hlp := logI_pow n
  rw [hP] at hlp
  rw [hlp] at hLp
  have wm : IntKind.i64.wrap ((n : Int) * 65536) = (n : Int) * 65536 := w64_id (by omega) (by omega)
  have main : ∀ x y : Int, x ≤ y → x < 9223372036854775808 → y < 9223372036854775808 → logI x ≤ logI y := fun x y h _ _ => logI_mono h
  by_cases c : b < a
  · have hLa := univ_Log ha
    have hLb := univ_Log hb
    have hm := logI_mono (show b ≤ a by omega)
    simp -implicitDefEqProofs [Tryd.f4, c]
    obtain ⟨I, hI⟩ : ∃ I : Nat → St → Prop, ∀ q s', I q s' ↔ (∃ e i, s' = ⟨e, []⟩ ∧ e 0 = vI .i64 b ∧ e 1 = vI .i64 a ∧ e 2 = vI .u8 k ∧ e 7 = vI .i64 (i : Nat) ∧ (i + q = 4)) := ⟨_, fun _ _ => Iff.rfl⟩
    refine wpL_ind I ?_ 4 _ ((hI _ _).2 ⟨_, 0, (by first | rfl | (simp; done) | (simp; rfl) | (simp; and_intros <;> rfl)), by simp, by simp, by simp, by simp, by omega⟩)
    intro q stI hstI
    obtain ⟨e, i, rfl, e0, e1, e2, e7, hq⟩ := (hI _ _).1 hstI
    by_cases d : i < 4
    · have d' : (i : Int) < 4 := by omega
      have w_i : IntKind.i64.wrap ((i : Int) + 1) = ((i + 1 : Nat) : Int) := by rw [w64_id (by omega) (by omega)]; omega
      have hCa := univ_Count (kind := (i : Int)) (n := a)
      have hCb := univ_Count (kind := (i : Int)) (n := b)
      have hcm := cntI_mono (i : Int) (show b ≤ a by omega)
      have hcr := cntI_range (i : Int) b
      have q1 : ¬ cntI (i : Int) a < cntI (i : Int) b := by omega
      have q2 : ¬ cntI (i : Int) b < 0 := by omega
      simp -implicitDefEqProofs [e0, e1, e7, d', hCa, hCb, q1, q2, w_i]
      exact ⟨q - 1, by omega, (hI _ _).2 ⟨_, i + 1, (by first | rfl | (simp; done) | (simp; rfl) | (simp; and_intros <;> rfl)), by simp [e0], by simp [e1], by simp [e2], by simp, by omega⟩⟩
    · have d' : ¬ (i : Int) < 4 := by omega
      simp -implicitDefEqProofs [e0, e1, e2, e7, d', hLa, hLb, hm, htm, wn, wp, hmin, hLp, wm, hA, bin_rem, bin_shl, IntKind.bits]
  · have hLa := univ_Log ha
    have hLb := univ_Log hb
    have hm := logI_mono (show a ≤ b by omega)
    simp -implicitDefEqProofs [Tryd.f4, c]
    obtain ⟨I, hI⟩ : ∃ I : Nat → St → Prop, ∀ q s', I q s' ↔ (∃ e i, s' = ⟨e, []⟩ ∧ e 0 = vI .i64 a ∧ e 1 = vI .i64 b ∧ e 2 = vI .u8 k ∧ e 7 = vI .i64 (i : Nat) ∧ (i + q = 4)) := ⟨_, fun _ _ => Iff.rfl⟩
    refine wpL_ind I ?_ 4 _ ((hI _ _).2 ⟨_, 0, (by first | rfl | (simp; done) | (simp; rfl) | (simp; and_intros <;> rfl)), by simp, by simp, by simp, by simp, by omega⟩)
    intro q stI hstI
    obtain ⟨e, i, rfl, e0, e1, e2, e7, hq⟩ := (hI _ _).1 hstI
    by_cases d : i < 4
    · have d' : (i : Int) < 4 := by omega
      have w_i : IntKind.i64.wrap ((i : Int) + 1) = ((i + 1 : Nat) : Int) := by rw [w64_id (by omega) (by omega)]; omega
      have hCa := univ_Count (kind := (i : Int)) (n := a)
      have hCb := univ_Count (kind := (i : Int)) (n := b)
      have hcm := cntI_mono (i : Int) (show a ≤ b by omega)
      have hcr := cntI_range (i : Int) a
      have q1 : ¬ cntI (i : Int) b < cntI (i : Int) a := by omega
      have q2 : ¬ cntI (i : Int) a < 0 := by omega
      simp -implicitDefEqProofs [e0, e1, e7, d', hCa, hCb, q1, q2, w_i]
      exact ⟨q - 1, by omega, (hI _ _).2 ⟨_, i + 1, (by first | rfl | (simp; done) | (simp; rfl) | (simp; and_intros <;> rfl)), by simp [e0], by simp [e1], by simp [e2], by simp, by omega⟩⟩
    · have d' : ¬ (i : Int) < 4 := by omega
      simp -implicitDefEqProofs [e0, e1, e2, e7, d', hLa, hLb, hm, htm, wn, wp, hmin, hLp, wm, hA, bin_rem, bin_shl, IntKind.bits]
end Go.Proofs.YtngpmpmhpggpgaaDoorF
end

section
/- Few strings, and short ones. -/
set_option maxRecDepth 8192
set_option maxHeartbeats 2000000
namespace Go.Proofs.YtngpmpmhpggpgaaDoorF
open Go Go.Proofs.Vm
def cStr (s : ByteArray) : List CV := [.v (.string s)]
def cSs (l : List ByteArray) : CV := .arr (l.map cStr)
def shortB (l : List ByteArray) (most : Nat) : Bool := decide (l.length ≤ most) && l.all fun s => decide (s.size ≤ 100)
theorem rr_Short {l : List ByteArray} {most : Nat} (hl : l.length < 9223372036854775807) : TV.pu 17 [.one (cSs l), cI .i64 most] = some (cB (shortB l most)) := by
  refine run17 (by simp) ?_
  unfold shortB
  by_cases hm : l.length ≤ most
  · have hm' : ¬ (most : Int) < l.length := by omega
    simp -implicitDefEqProofs [Tryd.f17, cSs, hm', hm]
    obtain ⟨I, hI⟩ : ∃ I : Nat → St → Prop, ∀ k s', I k s' ↔ (∃ e j, s' = ⟨e, []⟩ ∧ e 0 = .one (.c (.arr (l.map cStr))) ∧ e 5 = vI .i64 (j : Nat) ∧ j + k = l.length ∧ ∀ q, ∀ h : q < l.length, q < j → l[q].size ≤ 100) := ⟨_, fun _ _ => Iff.rfl⟩
    refine wpL_ind I ?_ l.length _ ((hI _ _).2 ⟨_, 0, rfl, by simp, by simp, by omega, by omega⟩)
    intro k st hst
    obtain ⟨e, j, rfl, e0, e5, hk, hno⟩ := (hI _ _).1 hst
    by_cases c : j < l.length
    · have w1 : IntKind.i64.wrap ((j : Int) + 1) = ((j + 1 : Nat) : Int) := by rw [w64_id (by omega) (by omega)]; omega
      by_cases hj : l[j].size ≤ 100
      · have hj' : ¬ 100 < (l[j].size : Int) := by omega
        simp -implicitDefEqProofs [e0, e5, c, w1, cStr, hj']
        refine ⟨k - 1, by omega, (hI _ _).2 ⟨_, j + 1, rfl, by simp [e0], by simp, by omega, ?_⟩⟩
        intro q hq hqj
        by_cases h : q = j
        · subst h; exact hj
        · exact hno q hq (by omega)
      · have hj' : 100 < (l[j].size : Int) := by omega
        have hall : (l.all fun s => decide (s.size ≤ 100)) = false := by
          rw [List.all_eq_false]
          exact ⟨l[j], List.getElem_mem c, by simpa using hj⟩
        rw [hall]
        simp -implicitDefEqProofs [e0, e5, c, cStr, hj']
    · have hall : (l.all fun s => decide (s.size ≤ 100)) = true := by
        rw [List.all_eq_true]
        intro x hx
        obtain ⟨q, hq, rfl⟩ := List.getElem_of_mem hx
        exact decide_eq_true (hno q hq (by omega))
      rw [hall]
      simp -implicitDefEqProofs [e0, e5, c]
  · have hm' : (most : Int) < l.length := by omega
    simp -implicitDefEqProofs [Tryd.f17, cSs, hm', hm]
end Go.Proofs.YtngpmpmhpggpgaaDoorF
end

section
/- Sketches that are refused; a sketch to which keys came. -/
set_option maxRecDepth 8192
set_option maxHeartbeats 4000000
namespace Go.Proofs.YtngpmpmhpggpgaaDoorF
open Go Go.Proofs.Vm

theorem univ_New_arg {z : Sz} (h : ¬ ZOk z) (s0 : 0 ≤ z.seed) (s1 : z.seed < 18446744073709551616) : TV.pu 14 [cI .u64 z.seed, cI .i64 z.levels, cI .i64 z.rows, cI .i64 z.cols, cI .i64 z.room] = some (.tup [(true, cUs (0, 0, [])), (false, [.v (.int .i64 1)])]) := by
  refine run14 (by simp) ?_
  obtain ⟨sd, levels, rows, cols, room⟩ := z
  dsimp only at s0 s1
  have hres : cUs (0, 0, []) = [.v (.int .u64 0), .v (.int .i64 0), .arr []] := rfl
  rw [hres]
  by_cases c1 : levels < 1
  · simp -implicitDefEqProofs [Tryd.f14, c1, vstore, cellsOf?, Ent.wrO, wr, vmove, isNil]
    simp [qa]
  by_cases c2 : 16 < levels
  · simp -implicitDefEqProofs [Tryd.f14, c1, c2, vstore, cellsOf?, Ent.wrO, wr, vmove, isNil]
    simp [qa]
  by_cases c3 : room < 1
  · simp -implicitDefEqProofs [Tryd.f14, c1, c2, c3, vstore, cellsOf?, Ent.wrO, wr, vmove, isNil]
    simp [qa]
  by_cases c4 : 64 < room
  · simp -implicitDefEqProofs [Tryd.f14, c1, c2, c3, c4, vstore, cellsOf?, Ent.wrO, wr, vmove, isNil]
    simp [qa]
  have hn : ¬ newOk rows cols := fun hn => h ⟨s0, s1, by dsimp only; omega, by dsimp only; omega, hn, by dsimp only; omega, by dsimp only; omega⟩
  have hN := fun (s : Int) => signed_New_arg (seed := s) hn
  have hRow := hash_Row (s := sd) (i := 1) s0 s1 (by omega) (by omega)
  have w1 : IntKind.i64.wrap 1 = 1 := by decide
  have c5 : 0 < levels := by omega
  simp only [cSk, cRows, List.map_nil] at hN
  simp -implicitDefEqProofs [Tryd.f14, c1, c2, c3, c4, vstore, cellsOf?, Ent.wrO, wr, vmove, isNil]
  refine wpL_step ?_
  simp -implicitDefEqProofs [c5, w1, hRow, hN, vstore, cellsOf?, Ent.wrO, wr, vmove, isNil]
  simp [qa]
def cSz (z : Sz) : List CV := [.v (.int .u64 z.seed), .v (.int .i64 z.levels), .v (.int .i64 z.rows), .v (.int .i64 z.cols), .v (.int .i64 z.room)]
theorem law_fed_no {z : Sz} {l : List ByteArray} (s0 : 0 ≤ z.seed) (s1 : z.seed < 18446744073709551616) (hl : l.length < 4611686018427387904) (h : ¬ (ZOk z ∧ shortB l 80 = true)) :
    ∃ S : Us, TV.pu 11 [.agg (cSz z), .one (cSs l)] = some (.tup [(true, cUs S), (false, [cItms []]), (false, [.v (.bool false)])]) := by
  have hSh : TV.pu 17 [.one (cSs l), cI .i64 80] = _ := rr_Short (l := l) (most := 80) (by omega)
  by_cases hz : ZOk z
  · have hN := univ_New hz
    have hs : shortB l 80 = false := by
      cases e : shortB l 80 with
      | false => rfl
      | true => exact absurd ⟨hz, e⟩ h
    rw [hs] at hSh
    refine ⟨uFed z [], run11 (by simp) ?_⟩
    obtain ⟨⟨s, r, v⟩, hS⟩ : ∃ S, uFed z [] = S := ⟨_, rfl⟩
    rw [hS] at hN ⊢
    simp only [cUs, cSs] at hN hSh
    simp -implicitDefEqProofs [Tryd.f11, cUs, cSz, cSs, cItms, hN, hSh, vstore, cellsOf?, Ent.wrO, wr, vmove, isNil]
    simp [qa]
  · have hN := univ_New_arg hz s0 s1
    refine ⟨(0, 0, []), run11 (by simp) ?_⟩
    simp only [cUs, cSs, List.map_nil] at hN hSh
    simp -implicitDefEqProofs [Tryd.f11, cUs, cSz, cSs, cItms, hN, vstore, cellsOf?, Ent.wrO, wr, vmove, isNil]
    simp [qa]
end Go.Proofs.YtngpmpmhpggpgaaDoorF
end

section
/- A sketch to which keys came: the statements' helper walked. -/
set_option maxRecDepth 8192
set_option maxHeartbeats 4000000
namespace Go.Proofs.YtngpmpmhpggpgaaDoorF
open Go Go.Proofs.Vm

/-- One of a key more. -/
def addK : List Itm → ByteArray → List Itm
  | [], k => [(k, 1)]
  | x :: r, k => if x.1 = k then (k, x.2 + 1) :: r else x :: addK r k
def allOf (l : List ByteArray) : List Itm := l.foldl addK []
theorem addK_no {k : ByteArray} : ∀ {all : List Itm}, (∀ i, ∀ h : i < all.length, all[i].1 ≠ k) → addK all k = all ++ [(k, 1)]
  | [], _ => rfl
  | x :: r, h => by
    have h0 := h 0 (by simp)
    unfold addK
    rw [if_neg (by simpa using h0), addK_no fun i hi => h (i + 1) (Nat.succ_lt_succ hi)]
    rfl
theorem addK_at {k : ByteArray} : ∀ {all : List Itm} {i : Nat} (h : i < all.length), all[i].1 = k → (∀ j, ∀ hj : j < i, all[j].1 ≠ k) → addK all k = all.set i (k, all[i].2 + 1)
  | x :: r, 0, _, e, _ => by
    have e : x.1 = k := e
    unfold addK
    rw [if_pos e]
    rfl
  | x :: r, i + 1, h, e, hn => by
    have h0 : x.1 ≠ k := hn 0 (by omega)
    unfold addK
    rw [if_neg h0, addK_at (all := r) (i := i) (Nat.lt_of_succ_lt_succ h) e fun j hj => hn (j + 1) (Nat.succ_lt_succ hj)]
    rfl
theorem allOf_snoc (l : List ByteArray) (k : ByteArray) : allOf (l ++ [k]) = addK (allOf l) k := by simp [allOf]
theorem allOf_step {ks : List ByteArray} {all : List Itm} (h : AllOk ks all) (k : ByteArray) : AllOk (ks ++ [k]) (addK all k) := by
  by_cases c : ∃ i, ∃ hi : i < all.length, all[i].1 = k
  · obtain ⟨i, hi, e⟩ := c
    rw [addK_at hi e fun j hj e2 => keys_iff.1 h.keys j i hi hj (by rw [e2, e])]
    exact h.inc hi e
  · rw [addK_no fun i hi e => c ⟨i, hi, e⟩]
    exact h.add fun i hi e => c ⟨i, hi, e⟩
theorem allOf_ok (l : List ByteArray) : AllOk l (allOf l) := by
  obtain ⟨n, hn⟩ : ∃ n, n = l.length := ⟨_, rfl⟩
  induction n generalizing l with
  | zero =>
    have : l = [] := List.length_eq_zero_iff.1 hn.symm
    subst this
    exact allOk_nil
  | succ n ih =>
    have hne : l ≠ [] := by rintro rfl; simp at hn
    rw [← List.dropLast_concat_getLast hne, allOf_snoc]
    exact allOf_step (ih _ (by rw [List.length_dropLast]; omega)) _
theorem short_iff {l : List ByteArray} {n : Nat} (h : shortB l n = true) : l.length ≤ n ∧ ∀ k ∈ l, k.size ≤ 100 := by simpa [shortB] using h
theorem law_fed {z : Sz} {l : List ByteArray} (hz : ZOk z) (hsh : shortB l 80 = true) :
    TV.pu 11 [.agg (cSz z), .one (cSs l)] = some (.tup [(true, cUs (uFed z l)), (false, [cItms (allOf l)]), (false, [.v (.bool true)])]) := by
  refine run11 (by simp) ?_
  obtain ⟨hl, hks⟩ := short_iff hsh
  have hSh : TV.pu 17 [.one (cSs l), cI .i64 80] = _ := rr_Short (l := l) (most := 80) (by omega)
  rw [hsh] at hSh
  have hN := univ_New hz
  have hAd := fun (ks : List ByteArray) (h : ks.length ≤ 80) (k : ByteArray) (hk : k.size ≤ 100) => fed_Add hz (ks := ks) (by omega) (k := k) (by omega)
  obtain ⟨F, hF⟩ : ∃ F : List ByteArray → Us, ∀ ks, uFed z ks = F ks := ⟨_, fun _ => rfl⟩
  simp only [hF] at hN hAd ⊢
  simp only [cUs, cSs] at hN hSh hAd
  simp -implicitDefEqProofs [Tryd.f11, cUs, cSz, cSs, hN, hSh, vstore, cellsOf?, Ent.wrO, wr, vmove, isNil]
  have hAl : ∀ i, (allOf (l.take i)).length ≤ i := fun i => by
    have := (allOf_ok (l.take i)).len
    simp at this
    omega
  obtain ⟨I, hI⟩ : ∃ I : Nat → St → Prop, ∀ k s', I k s' ↔ (∃ e i E0 E2 E3 E5 A L, s' = ⟨e, E0 :: .opn [[.c (.v (.int .u64 0)), .c (.v (.int .i64 0)), .sl 2 0 0 0]] false :: E2 :: E3 :: .opn [(cUs (F (l.take i))).map .c] false :: E5 :: .clo (A.map cItm) false :: L⟩ ∧ e 4 = .one (.ptr ⟨1, 0, 0, 1⟩) ∧ e 7 = .one (.ptr ⟨4, 0, 0, 1⟩) ∧ e 9 = .one (.sl 6 0 A.length A.length) ∧ e 36 = .one (.c (.arr (l.map cStr))) ∧ e 37 = vI .i64 l.length ∧ e 38 = vI .i64 (i : Nat) ∧ (i + k = l.length) ∧ (allOf (l.take i) = A)) := ⟨_, fun _ _ => Iff.rfl⟩
  refine wpL_ind I ?_ l.length _ ((hI _ _).2 ⟨_, 0, _, _, _, _, [], _, (by first | rfl | (simp [cUs]; done) | (simp [cUs]; rfl) | (simp [cUs]; and_intros <;> rfl)), by simp, by simp, by simp, by simp, by simp, by simp, by omega, rfl⟩)
  intro k stI hstI
  obtain ⟨e, i, E0, E2, E3, E5, A, L, rfl, e4, e7, e9, e36, e37, e38, hk, hA⟩ := (hI _ _).1 hstI
  have hAk := allOf_ok (l.take i)
  have hAlen := hAl i
  rw [hA] at hAk hAlen
  by_cases c : i < l.length
  rotate_left
  · have hi : l.take i = l := List.take_of_length_le (by omega)
    simp only [hi] at hA hAk ⊢
    simp only [hA]
    have htk : (A.map cItm).take A.length = A.map cItm := List.take_of_length_le (by simp)
    simp -implicitDefEqProofs [e4, e7, e9, e37, e38, c, cUs, vstore, cellsOf?, Ent.wrO, wr, vmove, isNil]
    simp [qa, htk, cItms]
  have w_i : IntKind.i64.wrap ((i : Int) + 1) = ((i + 1 : Nat) : Int) := by rw [w64_id (by omega) (by omega)]; omega
  have hki : (l[i]).size ≤ 100 := hks _ (List.getElem_mem c)
  have hAdi := hAd (l.take i) (by simp; omega) l[i] hki
  have htk1 : l.take (i + 1) = l.take i ++ [l[i]] := by rw [List.take_add_one, List.getElem?_eq_getElem c]; rfl
  rw [← htk1] at hAdi
  have hnx : allOf (l.take (i + 1)) = addK A l[i] := by rw [htk1, allOf_snoc, hA]
  obtain ⟨key, hkey⟩ : ∃ key, l[i] = key := ⟨_, rfl⟩
  rw [hkey] at hAdi hnx
  obtain ⟨S1, hS1⟩ : ∃ S1, F (l.take i) = S1 := ⟨_, rfl⟩
  obtain ⟨S2, hS2⟩ : ∃ S2, F (l.take (i + 1)) = S2 := ⟨_, rfl⟩
  rw [hS1, hS2] at hAdi
  rw [hS1]
  simp -implicitDefEqProofs [e7, e9, e36, e37, e38, c, hkey, cStr, cUs, hAdi, vstore, cellsOf?, Ent.wrO, wr, vmove, isNil]
  obtain ⟨J, hJ⟩ : ∃ J : Nat → St → Prop, ∀ r s', J r s' ↔ (∃ f j a L, s' = ⟨f, E0 :: .opn [[.c (.v (.int .u64 0)), .c (.v (.int .i64 0)), .sl 2 0 0 0]] false :: E2 :: E3 :: .opn [(cUs S2).map .c] false :: E5 :: .clo (A.map cItm) false :: L⟩ ∧ f 4 = .one (.ptr ⟨1, 0, 0, 1⟩) ∧ f 7 = .one (.ptr ⟨4, 0, 0, 1⟩) ∧ f 9 = .one (.sl 6 0 A.length A.length) ∧ f 11 = vS key ∧ f 12 = vI .i64 a ∧ f 36 = .one (.c (.arr (l.map cStr))) ∧ f 37 = vI .i64 l.length ∧ f 38 = vI .i64 (i : Nat) ∧ f 49 = vI .i64 A.length ∧ f 50 = vI .i64 (j : Nat) ∧ (j + r = A.length) ∧ ((a = -1 ∧ ∀ q, ∀ h : q < A.length, q < j → A[q].1 ≠ key) ∨ ∃ p, ∃ h : p < A.length, a = (p : Int) ∧ A[p].1 = key)) := ⟨_, fun _ _ => Iff.rfl⟩
  refine wpL_ind J ?_ A.length _ ((hJ _ _).2 ⟨_, 0, -1, _, (by first | rfl | (simp [e4, e7, e9, e36, e37, e38, cUs]; done) | (simp [e4, e7, e9, e36, e37, e38, cUs]; rfl) | (simp [e4, e7, e9, e36, e37, e38, cUs]; and_intros <;> rfl)), by simp [e4], by simp [e7], by simp [e9], by simp, by simp, by simp [e36], by simp [e37], by simp [e38], by simp, by simp, by omega, .inl ⟨rfl, fun q _ h => absurd h (Nat.not_lt_zero _)⟩⟩)
  intro r stJ hstJ
  obtain ⟨f, j, a, L, rfl, e4, e7, e9, e11, e12, e36, e37, e38, e49, e50, hr, ha⟩ := (hJ _ _).1 hstJ
  by_cases d : j < A.length
  · have w_j : IntKind.i64.wrap ((j : Int) + 1) = ((j + 1 : Nat) : Int) := by rw [w64_id (by omega) (by omega)]; omega
    by_cases h : A[j].1 = key
    · simp -implicitDefEqProofs [e9, e11, e49, e50, d, cItm, sbin_eql, h, w_j]
      exact ⟨r - 1, by omega, (hJ _ _).2 ⟨_, j + 1, (j : Int), _, (by first | rfl | (simp [cItm]; done) | (simp [cItm]; rfl) | (simp [cItm]; and_intros <;> rfl)), by simp [e4], by simp [e7], by simp [e9], by simp [e11], by simp, by simp [e36], by simp [e37], by simp [e38], by simp [e49], by simp, by omega, .inr ⟨j, d, rfl, h⟩⟩⟩
    · simp -implicitDefEqProofs [e9, e11, e49, e50, d, cItm, sbin_eql, toList_inj, h, w_j]
      exact ⟨r - 1, by omega, (hJ _ _).2 ⟨_, j + 1, a, _, (by first | rfl | (simp [cItm]; done) | (simp [cItm]; rfl) | (simp [cItm]; and_intros <;> rfl)), by simp [e4], by simp [e7], by simp [e9], by simp [e11], by simp [e12], by simp [e36], by simp [e37], by simp [e38], by simp [e49], by simp, by omega, (ha.elim (fun h0 => .inl ⟨h0.1, fun q hq hqj => if e : q = j then by subst e; exact h else h0.2 q hq (by omega)⟩) .inr)⟩⟩
  rcases ha with ⟨rfl, hn⟩ | ⟨p, hp, rfl, hpk⟩
  · have hadd : addK A key = A ++ [(key, 1)] := addK_no fun q hq => hn q hq (by omega)
    rw [hadd] at hnx
    obtain ⟨B, hB⟩ : ∃ B, A ++ [(key, (0 : Int))] = B := ⟨_, rfl⟩
    have hBl : B.length = A.length + 1 := by rw [← hB]; simp
    have hlt : A.length < B.length := by omega
    have hBg : B[A.length] = (key, 0) := by simp only [← hB]; simp
    have happ : A.map cItm ++ [[.v (.string key), .v (.int .i64 0)]] = B.map cItm := by rw [← hB]; simp [cItm]
    have hwr : Ent.wrC (B.map cItm) A.length 1 [.v (.int .i64 1)] = (A ++ [(key, 1)]).map cItm := by
      rw [wr_count hlt, hBg, ← hB]
      congr 1
      simp
    have hal := cItm_all A
    have b1 : 24 * (A.length + 1) ≤ 140737488355328 := by omega
    have b2 : A.length + 1 ≤ 4611686018427387904 := by omega
    have w1 : IntKind.i64.wrap 1 = 1 := by decide
    simp -implicitDefEqProofs [e9, e11, e12, e38, e49, e50, d, vappend_sp es34 es34 el43, vbuildSlice_eq es34 el43, fzParts, setAll, rchParts, rch, elemsOf, b1, b2, hal, happ, hBl, hBg, hwr, w1, cItm, vstore, cellsOf?, wr, vmove, isNil]
    exact ⟨k - 1, by omega, (hI _ _).2 ⟨_, i + 1, E0, E2, E3, E5, A ++ [(key, 1)], _, (by first | rfl | (simp [hS2, w_i, cItm]; done) | (simp [hS2, w_i, cItm]; rfl) | (simp [hS2, w_i, cItm]; and_intros <;> rfl)), by simp [e4], by simp [e7], by simp, by simp [e36], by simp [e37], by simp, by omega, hnx⟩⟩
  · have hset : addK A key = A.set p (key, A[p].2 + 1) := addK_at hp hpk fun j hj e => keys_iff.1 hAk.keys j p hp hj (by rw [e, hpk])
    rw [hset] at hnx
    have hcnt := ((hAk.mem A[p]).1 (List.getElem_mem hp)).2
    have hcl : (l.take i).count A[p].1 ≤ i := by
      have := List.count_le_length (a := A[p].1) (l := l.take i)
      simp at this
      omega
    have hwc : IntKind.i64.wrap (A[p].2 + 1) = A[p].2 + 1 := w64_id (by omega) (by omega)
    have hwr := wr_count hp (A[p].2 + 1)
    rw [hpk] at hwr
    have hneg : ¬ (p : Int) < 0 := by omega
    obtain ⟨v, hv⟩ : ∃ v, A[p].2 = v := ⟨_, rfl⟩
    rw [hv] at hwc hwr hnx
    simp -implicitDefEqProofs [e9, e12, e38, e49, e50, d, hneg, hp, hv, hwc, hwr, cItm, vstore, cellsOf?, vmove, isNil]
    exact ⟨k - 1, by omega, (hI _ _).2 ⟨_, i + 1, E0, E2, E3, E5, A.set p (key, v + 1), _, (by first | rfl | (simp [hS2, w_i, cItm]; done) | (simp [hS2, w_i, cItm]; rfl) | (simp [hS2, w_i, cItm]; and_intros <;> rfl)), by simp [e4], by simp [e7], by simp [e9], by simp [e36], by simp [e37], by simp, by omega, hnx⟩⟩
end Go.Proofs.YtngpmpmhpggpgaaDoorF
end

section
/- What a sketch lists, where there is room for all that came: plain facts. -/
set_option maxRecDepth 8192
set_option maxHeartbeats 2000000
namespace Go.Proofs.YtngpmpmhpggpgaaDoorF
open Go Go.Proofs.Vm

theorem ssign_two (seed : Int) (key : ByteArray) (i : Int) : ssign seed key i = 1 ∨ ssign seed key i = -1 := ssign_or seed key i
theorem getL_within {B seed : Int} {key : ByteArray} {rows : List (List Int)} (hB : 0 ≤ B) (h : Within B rows) : ∀ x ∈ getL seed key rows, -B ≤ x ∧ x ≤ B := fun x hx => by
  obtain ⟨i, hi, rfl⟩ := List.getElem_of_mem hx
  rw [getL_len] at hi
  simp only [getL, List.getElem_mapIdx]
  obtain ⟨v, hv⟩ : ∃ v, rows[i].getD (scell seed key (i : Int) rows[i].length).toNat 0 = v := ⟨_, rfl⟩
  have hvb : -B ≤ v ∧ v ≤ B := by
    rw [List.getD_eq_getElem?_getD] at hv
    cases hg : rows[i][(scell seed key (i : Int) rows[i].length).toNat]? with
    | none => rw [hg] at hv; rw [← hv]; simp only [Option.getD_none]; omega
    | some w =>
      rw [hg] at hv
      have := h _ (List.getElem_mem hi) w (List.mem_of_getElem? hg)
      rw [← hv]
      exact this
  rw [hv]
  rcases ssign_two seed key (i : Int) with e | e <;> rw [e] <;> omega
theorem lvFed_cnt {room seed rows cols : Int} (h : newOk rows cols) (hr : 1 ≤ room) : ∀ (n : Nat) (ks : List ByteArray), ks.length = n → n < 1000000 → ∀ y ∈ (lvFed room (lvZ seed rows.toNat cols.toNat) ks).2.2, -1000000 ≤ y.2
  | 0, ks, hn, _, y, hy => by
    have : ks = [] := List.length_eq_zero_iff.1 hn
    subst this
    cases hy
  | n + 1, ks, hn, hl, y, hy => by
    have hne : ks ≠ [] := by rintro rfl; simp at hn
    obtain ⟨a, b, rfl⟩ : ∃ a b, ks = a ++ [b] := ⟨_, _, (List.dropLast_concat_getLast hne).symm⟩
    have hla : a.length = n := by simpa using hn
    have F := lvFed_is (room := room) (seed := seed) h hr (a ++ [b]) (by omega)
    rw [lvFed_snoc] at hy F
    rcases offer_mem hy with rfl | hy
    · show -1000000 ≤ med _
      have hne2 : getL (lvFed room (lvZ seed rows.toNat cols.toNat) a).1 b (addL (lvFed room (lvZ seed rows.toNat cols.toNat) a) b) ≠ [] := by
        intro e
        have h1 := congrArg List.length e
        rw [getL_len] at h1
        have h2 := F.ok.odd
        have h3 : (updL room b (lvFed room (lvZ seed rows.toNat cols.toNat) a)).2.1.length = 0 := h1
        omega
      have := (getL_within (B := ((a ++ [b]).length : Int)) (by omega) F.wi _ (med_mem hne2)).1
      rw [hn] at this
      have h5 : -((n + 1 : Nat) : Int) ≤ med (getL (lvFed room (lvZ seed rows.toNat cols.toNat) a).1 b (addL (lvFed room (lvZ seed rows.toNat cols.toNat) a) b)) := this
      omega
    · exact lvFed_cnt h hr n a hla (by omega) y hy
theorem seen_all {z : Sz} (h : ZOk z) {l : List ByteArray} (hl : l.length < 1000000) (hr : ((allOf l).length : Int) ≤ z.room) : (keptI (-4611686018427387904) (zL z l 0).2.2).length = (allOf l).length := by
  have hA := allOf_ok l
  have hlev : ∀ x, (0 : Int) ≤ zLev z x := fun x => (hlev_range (hrow z.seed 0) x (z.levels - 1)).1
  have hz : zKeys z 0 l = l := List.filter_eq_self.2 fun x _ => decide_eq_true (by have := hlev x; omega)
  have F := zL_fed h hl 0
  have hall := lvFed_all (room := z.room) (seed := hrow z.seed ((0 : Nat) + 1)) h.new h.r1 (D := (allOf l).map (fun x : Itm => x.1)) (by rw [List.length_map]; exact hr) l.length l rfl hl (fun k hk => List.mem_map.2 ⟨(k, (l.count k : Int)), (hA.mem _).2 ⟨hk, rfl⟩, rfl⟩)
  have hcnt := lvFed_cnt (room := z.room) (seed := hrow z.seed ((0 : Nat) + 1)) h.new h.r1 l.length l rfl hl
  have e0 : lvFed z.room (lvZ (hrow z.seed ((0 : Nat) + 1)) z.rows.toNat z.cols.toNat) l = zL z l 0 := by unfold zL; rw [hz]
  rw [e0] at hall hcnt
  rw [hz] at F
  have hk : keptI (-4611686018427387904) (zL z l 0).2.2 = (zL z l 0).2.2 := List.filter_eq_self.2 fun x hx => decide_eq_true (by have := hcnt x hx; omega)
  rw [hk]
  have h1 := nodup_le (a := (zL z l 0).2.2.map (fun x : Itm => x.1)) (b := (allOf l).map (fun x : Itm => x.1)) F.keys fun x hx => by
    obtain ⟨y, hy, rfl⟩ := List.mem_map.1 hx
    exact List.mem_map.2 ⟨(y.1, (l.count y.1 : Int)), (hA.mem _).2 ⟨F.seen y hy, rfl⟩, rfl⟩
  have h2 := nodup_le (a := (allOf l).map (fun x : Itm => x.1)) (b := (zL z l 0).2.2.map (fun x : Itm => x.1)) hA.keys fun x hx => by
    obtain ⟨y, hy, rfl⟩ := List.mem_map.1 hx
    obtain ⟨c, hc⟩ := hall y.1 ((hA.mem y).1 hy).1
    exact List.mem_map.2 ⟨_, hc, rfl⟩
  rw [List.length_map, List.length_map] at h1 h2
  omega
end Go.Proofs.YtngpmpmhpggpgaaDoorF
end

section
/- What came is seen: the law. -/
set_option maxRecDepth 8192
set_option maxHeartbeats 4000000
namespace Go.Proofs.YtngpmpmhpggpgaaDoorF
open Go Go.Proofs.Vm

theorem law_seen {z : Sz} {l : List ByteArray} (s0 : 0 ≤ z.seed) (s1 : z.seed < 18446744073709551616) (hl : l.length < 4611686018427387904) :
    TV.pu 5 [.agg (cSz z), .one (cSs l)] = some (cB true) := by
  refine run5 (by simp) ?_
  have hA := law_awake18
  by_cases hok : ZOk z ∧ shortB l 80 = true
  rotate_left
  · obtain ⟨⟨a, b, v⟩, hF⟩ := law_fed_no s0 s1 hl hok
    simp only [cUs, cSz, cSs, cItms, List.map_nil] at hF
    simp -implicitDefEqProofs [Tryd.f5, cSz, cSs, hF, hA, vstore, cellsOf?, Ent.wrO, wr, vmove, isNil]
  obtain ⟨hz, hsh⟩ := hok
  obtain ⟨hl80, hk100⟩ := short_iff hsh
  have hF := law_fed hz hsh
  have hAl := allOf_ok l
  have hAlen := hAl.len
  have hsa := seen_all hz (l := l) (by omega)
  obtain ⟨all, hall⟩ : ∃ all, allOf l = all := ⟨_, rfl⟩
  rw [hall] at hF hAl hAlen hsa
  have hU := uFed_ok hz (ks := l) (by omega)
  have hG := uFed_good hz (ks := l) (by omega)
  have hseen := fun j hj => uFed_seen hz (ks := l) (by omega) j hj
  have hLs := univ_List (s := uFed z l) (most := -4611686018427387904) hG
  have h0 : 0 < (uFed z l).2.2.length := hU.l1
  rw [uOk_iff.2 hU, if_pos rfl, headD_at h0, uFed_at] at hLs
  obtain ⟨kp, hkp⟩ : ∃ kp, keptI (-4611686018427387904) (zL z l 0).2.2 = kp := ⟨_, rfl⟩
  rw [hkp] at hLs hsa
  have hrm : ∀ j, ∀ h : j < (uFed z l).2.2.length, ((uFed z l).2.2[j].2.2.length : Int) ≤ z.room := fun j h => (hU.lv j h).room
  obtain ⟨⟨sd, room, lvs⟩, hS⟩ : ∃ S, uFed z l = S := ⟨_, rfl⟩
  simp only [hS] at hF hLs hrm hseen
  have hsn : ∀ j, ∀ hj : j < lvs.length, ∀ y ∈ lvs[j].2.2, ∃ x ∈ all, x.1 = y.1 := fun j hj y hy => ⟨(y.1, (l.count y.1 : Int)), (hAl.mem _).2 ⟨(hseen j hj y hy).1, rfl⟩, rfl⟩
  simp only [cUs, cSz, cSs] at hF
  simp only [cUs] at hLs
  simp -implicitDefEqProofs [Tryd.f5, cSz, cSs, cItms, hF, vstore, cellsOf?, Ent.wrO, wr, vmove, isNil]
  have h16 : lvs.length ≤ 16 := by have := hU.l2; rw [hS] at this; exact this
  have hr64 := hz.r2
  obtain ⟨I, hI⟩ : ∃ I : Nat → St → Prop, ∀ k s', I k s' ↔ (∃ e i G, s' = ⟨e, G⟩ ∧ e 2 = .one (.ptr ⟨0, 0, 0, 1⟩) ∧ e 5 = .one (.ptr ⟨1, 0, 0, 1⟩) ∧ e 6 = .one (.c (.arr (all.map cItm))) ∧ e 26 = .one (.c (.arr (lvs.map cLv))) ∧ e 27 = vI .i64 lvs.length ∧ e 28 = vI .i64 (i : Nat) ∧ (i + k = lvs.length) ∧ (G[0]? = some (.opn [(cSz z).map .c] false)) ∧ (G[1]? = some (.opn [[.c (.v (.int .u64 sd)), .c (.v (.int .i64 room)), .c (.arr (lvs.map cLv))]] false))) := ⟨_, fun _ _ => Iff.rfl⟩
  refine wpL_ind I ?_ lvs.length _ ((hI _ _).2 ⟨_, 0, _, (by first | rfl | (simp [cItms]; done) | (simp [cItms]; rfl) | (simp [cItms]; and_intros <;> rfl)), by simp, by simp, by simp, by simp, by simp, by simp, by omega, rfl, rfl⟩)
  intro k stI hstI
  obtain ⟨e, i, G, rfl, e2, e5, e6, e26, e27, e28, hk, g0, g1⟩ := (hI _ _).1 hstI
  have a0 : ∀ T : Hp, (G ++ T)[0]? = some (.opn [(cSz z).map .c] false) := fun T => gapp T g0
  have a1 : ∀ T : Hp, (G ++ T)[1]? = some (.opn [[.c (.v (.int .u64 sd)), .c (.v (.int .i64 room)), .c (.arr (lvs.map cLv))]] false) := fun T => gapp T g1
  by_cases c : i < lvs.length
  rotate_left
  · by_cases d : z.room < (all.length : Int)
    · simp -implicitDefEqProofs [e2, e6, e27, e28, c, g0, cSz, d, hA]
    · have hkl : (kp.length : Int) = all.length := by have := hsa (by omega); omega
      simp -implicitDefEqProofs [e2, e5, e6, e27, e28, c, g0, g1, cSz, d, hLs, cItms, hkl, hA]
  have w_i : IntKind.i64.wrap ((i : Int) + 1) = ((i + 1 : Nat) : Int) := by rw [w64_id (by omega) (by omega)]; omega
  obtain ⟨⟨ls, lr, lt⟩, hli⟩ : ∃ L, lvs[i] = L := ⟨_, rfl⟩
  have hri := hrm i c
  have hsi := hsn i c
  rw [hli] at hri hsi
  dsimp only at hri hsi
  simp -implicitDefEqProofs [e26, e27, e28, c, hli, cLv, cItms, vstore, cellsOf?, Ent.wrO, wr, vmove, isNil]
  obtain ⟨J, hJ⟩ : ∃ J : Nat → St → Prop, ∀ r s', J r s' ↔ (∃ f j G cb, s' = ⟨f, G⟩ ∧ f 2 = .one (.ptr ⟨0, 0, 0, 1⟩) ∧ f 5 = .one (.ptr ⟨1, 0, 0, 1⟩) ∧ f 6 = .one (.c (.arr (all.map cItm))) ∧ f 9 = .one (.ptr ⟨cb, 0, 0, 1⟩) ∧ f 26 = .one (.c (.arr (lvs.map cLv))) ∧ f 27 = vI .i64 lvs.length ∧ f 28 = vI .i64 (i : Nat) ∧ f 33 = .one (.c (.arr (lt.map cItm))) ∧ f 34 = vI .i64 lt.length ∧ f 35 = vI .i64 (j : Nat) ∧ (j + r = lt.length) ∧ (G[0]? = some (.opn [(cSz z).map .c] false)) ∧ (G[1]? = some (.opn [[.c (.v (.int .u64 sd)), .c (.v (.int .i64 room)), .c (.arr (lvs.map cLv))]] false)) ∧ (G[cb]? = some (.opn [[.c (.v (.int .u64 ls)), .c (cRows lr), .c (.arr (lt.map cItm))]] false))) := ⟨_, fun _ _ => Iff.rfl⟩
  refine wpL_ind J ?_ lt.length _ ((hJ _ _).2 ⟨_, 0, _, G.length, (by first | rfl | (simp [e2, e5, e6, e26, e27, e28, cItms]; done) | (simp [e2, e5, e6, e26, e27, e28, cItms]; rfl) | (simp [e2, e5, e6, e26, e27, e28, cItms]; and_intros <;> rfl)), by simp [e2], by simp [e5], by simp [e6], by simp, by simp [e26], by simp [e27], by simp [e28], by simp, by simp, by simp, by omega, a0 _, a1 _, by simp⟩)
  intro r stJ hstJ
  obtain ⟨f, j, G, cb, rfl, e2, e5, e6, e9, e26, e27, e28, e33, e34, e35, hr, g0, g1, g9⟩ := (hJ _ _).1 hstJ
  have b0 : ∀ T : Hp, (G ++ T)[0]? = some (.opn [(cSz z).map .c] false) := fun T => gapp T g0
  have b1 : ∀ T : Hp, (G ++ T)[1]? = some (.opn [[.c (.v (.int .u64 sd)), .c (.v (.int .i64 room)), .c (.arr (lvs.map cLv))]] false) := fun T => gapp T g1
  have b9 : ∀ T : Hp, (G ++ T)[cb]? = some (.opn [[.c (.v (.int .u64 ls)), .c (cRows lr), .c (.arr (lt.map cItm))]] false) := fun T => gapp T g9
  by_cases cj : j < lt.length
  rotate_left
  · have d : ¬ z.room < (lt.length : Int) := by omega
    simp -implicitDefEqProofs [e2, e9, e28, e34, e35, cj, g0, g9, cSz, d, w_i]
    exact ⟨k - 1, by omega, (hI _ _).2 ⟨_, i + 1, G, rfl, by simp [e2], by simp [e5], by simp [e6], by simp [e26], by simp [e27], by simp, by omega, g0, g1⟩⟩
  have w_j : IntKind.i64.wrap ((j : Int) + 1) = ((j + 1 : Nat) : Int) := by rw [w64_id (by omega) (by omega)]; omega
  obtain ⟨⟨key, cnt⟩, hlj⟩ : ∃ y, lt[j] = y := ⟨_, rfl⟩
  obtain ⟨x0, hx0, hxe⟩ := hsi lt[j] (List.getElem_mem cj)
  rw [hlj] at hxe
  dsimp only at hxe
  simp -implicitDefEqProofs [e6, e33, e34, e35, cj, hlj, cItm, vstore, cellsOf?, Ent.wrO, wr, vmove, isNil]
  obtain ⟨K, hK⟩ : ∃ K : Nat → St → Prop, ∀ t s', K t s' ↔ (∃ g q G cc b, s' = ⟨g, G⟩ ∧ g 2 = .one (.ptr ⟨0, 0, 0, 1⟩) ∧ g 5 = .one (.ptr ⟨1, 0, 0, 1⟩) ∧ g 6 = .one (.c (.arr (all.map cItm))) ∧ g 9 = .one (.ptr ⟨cb, 0, 0, 1⟩) ∧ g 11 = .one (.ptr ⟨cc, 0, 0, 1⟩) ∧ g 12 = vB b ∧ g 26 = .one (.c (.arr (lvs.map cLv))) ∧ g 27 = vI .i64 lvs.length ∧ g 28 = vI .i64 (i : Nat) ∧ g 33 = .one (.c (.arr (lt.map cItm))) ∧ g 34 = vI .i64 lt.length ∧ g 35 = vI .i64 (j : Nat) ∧ g 39 = .one (.c (.arr (all.map cItm))) ∧ g 40 = vI .i64 all.length ∧ g 41 = vI .i64 (q : Nat) ∧ (q + t = all.length) ∧ (b = true ↔ ∃ x ∈ all.take q, x.1 = key) ∧ (G[0]? = some (.opn [(cSz z).map .c] false)) ∧ (G[1]? = some (.opn [[.c (.v (.int .u64 sd)), .c (.v (.int .i64 room)), .c (.arr (lvs.map cLv))]] false)) ∧ (G[cb]? = some (.opn [[.c (.v (.int .u64 ls)), .c (cRows lr), .c (.arr (lt.map cItm))]] false)) ∧ (G[cc]? = some (.opn [[.c (.v (.string key)), .c (.v (.int .i64 cnt))]] false))) := ⟨_, fun _ _ => Iff.rfl⟩
  refine wpL_ind K ?_ all.length _ ((hK _ _).2 ⟨_, 0, _, G.length, false, (by first | rfl | (simp [e2, e5, e6, e9, e26, e27, e28, e33, e34, e35, cItm]; done) | (simp [e2, e5, e6, e9, e26, e27, e28, e33, e34, e35, cItm]; rfl) | (simp [e2, e5, e6, e9, e26, e27, e28, e33, e34, e35, cItm]; and_intros <;> rfl)), by simp [e2], by simp [e5], by simp [e6], by simp [e9], by simp, by simp, by simp [e26], by simp [e27], by simp [e28], by simp [e33], by simp [e34], by simp [e35], by simp, by simp, by simp, by omega, by simp, b0 _, b1 _, b9 _, by simp⟩)
  intro t stK hstK
  obtain ⟨g, q, G, cc, b, rfl, e2, e5, e6, e9, e11, e12, e26, e27, e28, e33, e34, e35, e39, e40, e41, ht, hb, g0, g1, g9, gc⟩ := (hK _ _).1 hstK
  have d0 : ∀ T : Hp, (G ++ T)[0]? = some (.opn [(cSz z).map .c] false) := fun T => gapp T g0
  have d1 : ∀ T : Hp, (G ++ T)[1]? = some (.opn [[.c (.v (.int .u64 sd)), .c (.v (.int .i64 room)), .c (.arr (lvs.map cLv))]] false) := fun T => gapp T g1
  have d9 : ∀ T : Hp, (G ++ T)[cb]? = some (.opn [[.c (.v (.int .u64 ls)), .c (cRows lr), .c (.arr (lt.map cItm))]] false) := fun T => gapp T g9
  have dc : ∀ T : Hp, (G ++ T)[cc]? = some (.opn [[.c (.v (.string key)), .c (.v (.int .i64 cnt))]] false) := fun T => gapp T gc
  by_cases cq : q < all.length
  rotate_left
  · have hq : all.take q = all := List.take_of_length_le (by omega)
    rw [hq] at hb
    have hbt : b = true := hb.2 ⟨x0, hx0, hxe⟩
    subst hbt
    simp -implicitDefEqProofs [e12, e35, e40, e41, cq, w_j]
    exact ⟨r - 1, by omega, (hJ _ _).2 ⟨_, j + 1, G, cb, rfl, by simp [e2], by simp [e5], by simp [e6], by simp [e9], by simp [e26], by simp [e27], by simp [e28], by simp [e33], by simp [e34], by simp, by omega, g0, g1, g9⟩⟩
  have w_q : IntKind.i64.wrap ((q : Int) + 1) = ((q + 1 : Nat) : Int) := by rw [w64_id (by omega) (by omega)]; omega
  obtain ⟨⟨k2, n2⟩, hlq⟩ : ∃ y, all[q] = y := ⟨_, rfl⟩
  have htk : all.take (q + 1) = all.take q ++ [(k2, n2)] := by rw [List.take_add_one, List.getElem?_eq_getElem cq, hlq]; rfl
  have hb2 : (b || (k2 == key)) = true ↔ ∃ x ∈ all.take (q + 1), x.1 = key := by
    rw [htk, Bool.or_eq_true, hb, beq_iff_eq]
    constructor
    · rintro (⟨x, hx, e⟩ | e)
      · exact ⟨x, List.mem_append.2 (.inl hx), e⟩
      · exact ⟨(k2, n2), by simp, e⟩
    · rintro ⟨x, hx, e⟩
      rcases List.mem_append.1 hx with h | h
      · exact .inl ⟨x, h, e⟩
      · rw [List.mem_singleton.1 h] at e; exact .inr e
  cases b with
  | true =>
    simp -implicitDefEqProofs [e12, e39, e40, e41, cq, hlq, cItm, w_q, vstore, cellsOf?, Ent.wrO, wr, vmove, isNil]
    exact ⟨t - 1, by omega, (hK _ _).2 ⟨_, q + 1, _, cc, true, (by first | rfl | (simp [e2, e5, e6, e9, e11, e26, e27, e28, e33, e34, e35, e39, e40, cItm]; done) | (simp [e2, e5, e6, e9, e11, e26, e27, e28, e33, e34, e35, e39, e40, cItm]; rfl) | (simp [e2, e5, e6, e9, e11, e26, e27, e28, e33, e34, e35, e39, e40, cItm]; and_intros <;> rfl)), by simp [e2], by simp [e5], by simp [e6], by simp [e9], by simp [e11], by simp, by simp [e26], by simp [e27], by simp [e28], by simp [e33], by simp [e34], by simp [e35], by simp [e39], by simp [e40], by simp, by omega, by rw [← hb2]; simp, d0 _, d1 _, d9 _, dc _⟩⟩
  | false =>
    by_cases hk2 : k2 = key
    · simp -implicitDefEqProofs [e11, e12, e39, e40, e41, cq, hlq, cItm, dc, w_q, hk2, sbin_eql, vstore, cellsOf?, Ent.wrO, wr, vmove, isNil]
      exact ⟨t - 1, by omega, (hK _ _).2 ⟨_, q + 1, _, cc, true, (by first | rfl | (simp [e2, e5, e6, e9, e11, e26, e27, e28, e33, e34, e35, e39, e40, cItm]; done) | (simp [e2, e5, e6, e9, e11, e26, e27, e28, e33, e34, e35, e39, e40, cItm]; rfl) | (simp [e2, e5, e6, e9, e11, e26, e27, e28, e33, e34, e35, e39, e40, cItm]; and_intros <;> rfl)), by simp [e2], by simp [e5], by simp [e6], by simp [e9], by simp [e11], by simp, by simp [e26], by simp [e27], by simp [e28], by simp [e33], by simp [e34], by simp [e35], by simp [e39], by simp [e40], by simp, by omega, by rw [← hb2]; simp [hk2], d0 _, d1 _, d9 _, dc _⟩⟩
    · simp -implicitDefEqProofs [e11, e12, e39, e40, e41, cq, hlq, cItm, dc, w_q, sbin_eql, vstore, cellsOf?, Ent.wrO, wr, vmove, isNil]
      exact ⟨t - 1, by omega, (hK _ _).2 ⟨_, q + 1, _, cc, false, (by first | rfl | (simp [e2, e5, e6, e9, e11, e26, e27, e28, e33, e34, e35, e39, e40, cItm, toList_inj, hk2]; done) | (simp [e2, e5, e6, e9, e11, e26, e27, e28, e33, e34, e35, e39, e40, cItm, toList_inj, hk2]; rfl) | (simp [e2, e5, e6, e9, e11, e26, e27, e28, e33, e34, e35, e39, e40, cItm, toList_inj, hk2]; and_intros <;> rfl)), by simp [e2], by simp [e5], by simp [e6], by simp [e9], by simp [e11], by simp [toList_inj, hk2], by simp [e26], by simp [e27], by simp [e28], by simp [e33], by simp [e34], by simp [e35], by simp [e39], by simp [e40], by simp, by omega, by rw [← hb2]; simp [hk2], d0 _, d1 _, d9 _, dc _⟩⟩
end Go.Proofs.YtngpmpmhpggpgaaDoorF
end

section
/- Data of these laws. -/
namespace Go.Proofs.YtngpmpmhpggpgaaDoorF
open Go Go.Proofs.Vm

theorem isI_one {k : IntKind} {l : List CV} (h : isI k l) : ∃ n, l = [.v (.int k n)] ∧ k.min ≤ n ∧ n ≤ k.max := by
  obtain ⟨n, hx, hw⟩ := h
  simp only [Lit.wf, Bool.and_eq_true, decide_eq_true_eq] at hw
  exact ⟨n, hx, hw⟩
theorem u64_good {l : List CV} (h : isI .u64 l) : ∃ n, l = [.v (.int .u64 n)] ∧ 0 ≤ n ∧ n < 18446744073709551616 := by
  obtain ⟨n, rfl, h1, h2⟩ := isI_one h
  have e1 : IntKind.u64.min = 0 := rfl
  have e2 : IntKind.u64.max = 18446744073709551615 := rfl
  exact ⟨n, rfl, by omega, by omega⟩
theorem u8_good {l : List CV} (h : isI .u8 l) : ∃ n, l = [.v (.int .u8 n)] ∧ 0 ≤ n ∧ n < 256 := by
  obtain ⟨n, rfl, h1, h2⟩ := isI_one h
  have e1 : IntKind.u8.min = 0 := rfl
  have e2 : IntKind.u8.max = 255 := rfl
  exact ⟨n, rfl, by omega, by omega⟩
theorem i64_good {l : List CV} (h : isI .i64 l) : ∃ n, l = [.v (.int .i64 n)] ∧ -9223372036854775808 ≤ n ∧ n < 9223372036854775808 := by
  obtain ⟨n, rfl, h1, h2⟩ := isI_one h
  have e1 : IntKind.i64.min = -9223372036854775808 := rfl
  have e2 : IntKind.i64.max = 9223372036854775807 := rfl
  exact ⟨n, rfl, by omega, by omega⟩
theorem cv_one {x y : CV} (h : [x] = [y]) : x = y := by cases h; rfl
theorem lawUnivLogs_all : ∀ l, goodsUnivLogs l → TV.pu 3 l = some (cB true) := by
  rintro l ⟨a, r, rfl, ⟨x, rfl, h1⟩, b, r2, rfl, ⟨y, rfl, h2⟩, rfl⟩
  obtain ⟨n, hx, _, n1⟩ := i64_good h1
  obtain ⟨k, hy, _, _⟩ := i64_good h2
  rw [cv_one hx, cv_one hy]
  exact law_logs n1
theorem lawUnivRises_all : ∀ l, goodsUnivRises l → TV.pu 4 l = some (cB true) := by
  rintro l ⟨a, r, rfl, ⟨x, rfl, h1⟩, b, r2, rfl, ⟨y, rfl, h2⟩, c, r3, rfl, ⟨z, rfl, h3⟩, rfl⟩
  obtain ⟨n, hx, _, n1⟩ := i64_good h1
  obtain ⟨m, hy, _, m1⟩ := i64_good h2
  obtain ⟨k, hz, k0, k1⟩ := u8_good h3
  rw [cv_one hx, cv_one hy, cv_one hz]
  exact law_rises n1 m1 k0 k1
end Go.Proofs.YtngpmpmhpggpgaaDoorF
end

section
/- Data of what is seen: the law of all data. -/
namespace Go.Proofs.YtngpmpmhpggpgaaDoorF
open Go Go.Proofs.Vm

theorem size_good {l : List CV} (h : good29 l) : ∃ z : Sz, l = cSz z ∧ 0 ≤ z.seed ∧ z.seed < 18446744073709551616 := by
  obtain ⟨_, _, rfl, h1, _, _, rfl, h2, _, _, rfl, h3, _, _, rfl, h4, h5⟩ := h
  obtain ⟨s, rfl, s0, s1⟩ := u64_good h1
  obtain ⟨a, rfl, _⟩ := i64_good h2
  obtain ⟨b, rfl, _⟩ := i64_good h3
  obtain ⟨c, rfl, _⟩ := i64_good h4
  obtain ⟨d, rfl, _⟩ := i64_good h5
  exact ⟨⟨s, a, b, c, d⟩, rfl, s0, s1⟩
theorem strs_good {l : List CV} (h : good30 l) : ∃ b : List ByteArray, l = [cSs b] ∧ b.length < 4611686018427387904 := by
  obtain ⟨L, rfl, hg, hw⟩ := h
  obtain ⟨b, rfl, _⟩ := map_of (f := cStr) (g := fun _ => True) fun e he => by obtain ⟨x, hx, _⟩ := (hg e he).2; exact ⟨x, hx, trivial⟩
  rw [List.length_map] at hw
  exact ⟨b, rfl, by omega⟩
theorem lawUnivSeen_all : ∀ l, goodsUnivSeen l → TV.pu 5 l = some (cB true) := by
  rintro l ⟨a, r, rfl, ⟨x, rfl, _, h1⟩, b, r2, rfl, ⟨y, rfl, h2⟩, rfl⟩
  obtain ⟨z, rfl, s0, s1⟩ := size_good h1
  obtain ⟨p, hy, hp⟩ := strs_good h2
  rw [cv_one hy]
  exact law_seen s0 s1 hp
end Go.Proofs.YtngpmpmhpggpgaaDoorF
end
