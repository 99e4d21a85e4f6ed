/- Steps shared by the proofs of this seat's statements (part 5). -/
import Derived.Test.YtmgnmnogiajlgaaGreatC4
import Derived.Test.YtmgnmnogiajlgaaGreatC3
import Derived.Test.YtmgnmnogiajlgaaGreatC2
section
/- Joint: all rounds. -/
set_option maxRecDepth 8192
set_option maxHeartbeats 2000000
namespace Go.Proofs.YtmgnmnogiajlgaaGreatF
open Go Go.Proofs.Vm

theorem index_rads {g : CV} {caps : List CV} {f : FuncId} (hg : g = .fn f caps) {p : Rad → Bool} {r : List Rad} (hp : ∀ n ∈ r, TV.pu f (.agg (cRad n) :: caps.map .one) = some (cB (p n))) (hl : r.length < 9223372036854775807) :
    TV.pu 58 [.one (cRads r), .one g] = some (cI .i64 (idxF p r)) := by
  subst hg
  refine run58 (by simp) ?_
  simp [Tryz.f58, cRads]
  obtain ⟨I, hI⟩ : ∃ I : Nat → St → Prop, ∀ k s', I k s' ↔ (∃ e j, s' = ⟨e, []⟩ ∧ e 0 = .one (.c (.arr (r.map cRad))) ∧ e 1 = .one (.c (.fn f caps)) ∧ e 7 = vI .i64 r.length ∧ e 8 = vI .i64 (j : Nat) ∧ j + k = r.length ∧ ∀ q, q < j → ∀ x, r[q]? = some x → p x = false) := ⟨_, fun _ _ => Iff.rfl⟩
  refine wpL_ind I ?_ r.length _ ((hI _ _).2 ⟨_, 0, rfl, by simp, by simp, by simp, by simp, by omega, by simp⟩)
  intro k st hst
  obtain ⟨e, j, rfl, e0, e1, e7, e8, hk, hno⟩ := (hI _ _).1 hst
  by_cases c : j < r.length
  · have hx : r[j]? = some r[j] := List.getElem?_eq_getElem c
    have hpj := hp r[j] (List.getElem_mem c)
    have w1 : IntKind.i64.wrap ((j : Int) + 1) = ((j + 1 : Nat) : Int) := by rw [w64_id (by omega) (by omega)]; omega
    simp only [cRad, cRws, cRw] at hpj
    simp [e0, e1, e7, e8, c, hpj, w1, cRad, cRws, cRw]
    by_cases hj : p r[j] = true
    · simp [hj, idxF_at p r j c hj hno]
    · simp [hj]
      refine ⟨k - 1, by omega, (hI _ _).2 ⟨_, j + 1, rfl, by simp [e0], by simp [e1], by simp [e7], by simp, by omega, ?_⟩⟩
      intro q hq x hx2
      by_cases hqj : q = j
      · subst hqj
        rw [hx] at hx2
        cases hx2
        simpa using hj
      · exact hno q (by omega) x hx2
  · have c' : ¬ (j : Int) < (r.length : Int) := by omega
    simp [e0, e1, e7, e8, c']
    rw [idxF_none p r fun q hq => hno q (by omega)]
theorem contains_rads {g : CV} {caps : List CV} {f : FuncId} (hg : g = .fn f caps) {p : Rad → Bool} {r : List Rad} (hp : ∀ n ∈ r, TV.pu f (.agg (cRad n) :: caps.map .one) = some (cB (p n))) (hl : r.length < 9223372036854775807) :
    TV.pu 25 [.one (cRads r), .one g] = some (cB (r.any p)) := by
  refine run25 (by simp) ?_
  have h := index_rads hg hp hl
  subst hg
  simp [Tryz.f25, h, idxF_ge, cRads] at h ⊢

theorem mk_told {nid n : Nat} (h0 : 0 < n) (h : n ≤ 64) : vmakeRows Tryz.prog nid 27 (vI .i64 n) (vI .i64 n) = some (.one (.sl nid 0 n n), .opn ((List.range n).map fun j => [.sl (nid + 1 + j) 0 0 0]) false :: List.replicate n (.clo [] false), []) := by
  have hz : pv Tryz.prog (zeroValue 35) = some (.slice none 0 0) := by kernel_rfl
  obtain ⟨i, v, h1, h2, h3, h4, h5, h6, h7⟩ := elOf_facts (P := Tryz.prog) el35
  unfold vmakeRows
  simp only [es27, h1, hz]
  rw [if_pos ⟨by omega, trivial, by rw [h4]; simp [small]; omega, by omega, h3⟩]
  rw [Int.toNat_natCast, ownz_reps, List.map_map]
  rfl
def sortTo (L : List (Nat × Sw)) (i : Nat) : List (Nat × Sw) := L.mapIdx fun j x => if j < i then (x.1, (x.2.1, ssort x.2.2)) else x
theorem sortTo_len (L : List (Nat × Sw)) (i : Nat) : (sortTo L i).length = L.length := by simp [sortTo]
theorem sortTo_zero (L : List (Nat × Sw)) : sortTo L 0 = L := by
  apply List.ext_getElem (by simp [sortTo])
  intro j h1 h2
  simp [sortTo]
theorem sortTo_get {L : List (Nat × Sw)} {k j : Nat} (h : j < (sortTo L k).length) (h' : j < L.length) (hj : k ≤ j) : (sortTo L k)[j] = L[j] := by
  simp only [sortTo, List.getElem_mapIdx]
  rw [if_neg (by omega)]
theorem sortTo_succ {L : List (Nat × Sw)} {k : Nat} (h : k < L.length) : sortTo L (k + 1) = (sortTo L k).set k (L[k].1, (L[k].2.1, ssort L[k].2.2)) := by
  apply List.ext_getElem (by simp [sortTo])
  intro j h1 h2
  rw [List.getElem_set]
  simp only [sortTo, List.getElem_mapIdx]
  by_cases e : k = j
  · subst e; rw [if_pos (by omega), if_pos rfl]
  · rw [if_neg e]
    by_cases e2 : j < k
    · rw [if_pos e2, if_pos (by omega)]
    · rw [if_neg e2, if_neg (by omega)]
theorem sortTo_all {L : List (Nat × Sw)} {k : Nat} (h : L.length ≤ k) : (sortTo L k).map (·.2) = (L.map (·.2)).map fun x => (x.1, ssort x.2) := by
  apply List.ext_getElem (by simp [sortTo])
  intro j h1 h2
  have hj : j < L.length := by simpa [sortTo] using h1
  simp only [sortTo, List.getElem_map, List.getElem_mapIdx]
  rw [if_pos (by omega)]
theorem DH.sort {H : Hp} {a b : Nat} {L : List (Nat × Sw)} (h : DH H a b L) {k : Nat} (hk : k < L.length) {x : Nat × Sw} (hx : L[k] = x) : DH (H.set x.1 (.clo ((ssort x.2.2).map cStr) false)) a b (L.set k (x.1, (x.2.1, ssort x.2.2))) := by
  subst hx
  have hna := h.na hk
  have hnb := h.nb hk
  refine ⟨?_, ?_, fun j hj => ?_, ?_⟩
  · rw [set_get (fun e => hna e.symm), h.rad]
    congr 2
    apply List.ext_getElem (by simp)
    intro i h1 h2
    rw [List.getElem_map, List.getElem_map, List.getElem_set]
    split
    · rename_i e; subst e; rfl
    · rfl
  · rw [set_get (fun e => hnb e.symm), h.top]
    congr 2
    apply List.ext_getElem (by simp [topT])
    intro i h1 h2
    simp only [topT, List.getElem_map, List.getElem_set]
    split
    · rename_i e; subst e; simp [ssort_len]
    · rfl
  · have hj' : j < L.length := by simpa using hj
    rw [List.getElem_set]
    split
    · rename_i e
      subst e
      exact set_self (h.row _ hk)
    · rename_i e
      rw [set_get (fun e2 => e (h.inj hj' hk e2).symm)]
      exact h.row j hj'
  · have : (L.set k (L[k].1, (L[k].2.1, ssort L[k].2.2))).map (·.1) = L.map (·.1) := by
      rw [List.map_set]
      apply List.ext_getElem (by simp)
      intro i h1 h2
      rw [List.getElem_set]
      split
      · rename_i e; subst e; simp
      · rfl
    rw [this]; exact h.nd
def cTold (t : List (List ByteArray)) : CV := .arr (t.map fun l => [cSs l])
theorem DH.fz1 {H : Hp} {a b n : Nat} {L : List (Nat × Sw)} (h : DH H a b L) (hn : L.length = n) : fzc 5 H (.sl b 0 n n) = some (cTold (L.map (·.2.2))) := by
  have hm : mapO (mapO (fzc 4 H)) (topT L) = some (L.map fun x => [cSs x.2.2]) := by
    refine mapO_al (by simp [topT]) fun j x y hx hy => ?_
    have hj : j < L.length := by
      have := (List.getElem?_eq_some_iff.1 hx).1
      simpa [topT] using this
    have hr := h.row j hj
    simp [topT, hj] at hx hy
    subst hx hy
    simp only [mapO, fzc, hr, List.length_map, if_true, List.drop_zero]
    rw [List.take_of_length_le (by simp)]
    rfl
  unfold fzc
  simp only [h.top, topT_len, hn, if_true, List.drop_zero]
  rw [List.take_of_length_le (by rw [topT_len, hn]; exact Nat.le_refl _), hm]
  simp [cTold]
end Go.Proofs.YtmgnmnogiajlgaaGreatF
end

section
/- Joint: Decode. -/
set_option maxRecDepth 8192
set_option maxHeartbeats 2000000
namespace Go.Proofs.YtmgnmnogiajlgaaGreatF
open Go Go.Proofs.Vm

def decOk (l : List Rad) : Bool := decide (l.length ≤ 3) && l.all rOk
/-- What is told, and what is left. -/
def decA (S : List Sw) : CA := .tup [(false, [cTold (S.map fun x => ssort x.2)]), (false, [cRads (S.map (·.1))]), (false, [.v (.int .i64 0)])]
theorem jn_cw {l : List Rad} (hs : ∀ R ∈ l, Seeds R ∧ Lens R) (hl : l.length < 4611686018427387904) : TV.pu 25 [.one (cRads l), .one (.fn 26 [])] = some (cB (l.any fun R => !rOk R)) :=
  contains_rads (p := fun R => !rOk R) rfl (fun R hR => jn_wrong (hs R hR).1 (hs R hR).2) (by omega)
theorem jn_Decode_no {l : List Rad} (hs : ∀ R ∈ l, Seeds R ∧ Lens R) (hl : l.length < 4611686018427387904) (h : decOk l = false) : TV.pu 8 [.one (cRads l)] = some (.tup [(false, [.arr []]), (false, [.arr []]), (false, [.v (.int .i64 1)])]) := by
  refine run8 (by simp) ?_
  have hC := jn_cw hs hl
  simp only [cRads] at hC
  by_cases h3 : l.length ≤ 3
  · have h3' : ¬ 3 < (l.length : Int) := by omega
    have ha : l.any (fun R => !rOk R) = true := by
      unfold decOk at h
      rw [decide_eq_true h3, Bool.true_and, List.all_eq_false] at h
      obtain ⟨R, hR, h⟩ := h
      exact List.any_eq_true.2 ⟨R, hR, by simpa using h⟩
    rw [ha] at hC
    simp -implicitDefEqProofs [Tryz.f8, cRads, vmove, isNil, h3', hC]
  · have h3' : 3 < (l.length : Int) := by omega
    simp -implicitDefEqProofs [Tryz.f8, cRads, vmove, isNil, h3']
theorem jall_ok : ∀ (n : Nat) {L : List Sw}, JOk L → JOk (jall n L)
  | 0, _, h => h
  | n + 1, L, h => by
    cases hf : jfind L with
    | none => rw [jall_none hf]; exact h
    | some r => rw [jall_some hf]; exact jall_ok n (jmap_ok h)
theorem dh_start {K : Hp} {l : List Rad} : DH (K ++ Ent.clo (List.map cRad l) false :: Ent.opn (List.map (fun j => [Cell.sl (K.length + 1 + 1 + j) 0 0 0]) (List.range l.length)) false :: List.replicate l.length (Ent.clo [] false)) K.length (K.length + 1) (l.mapIdx fun j R => (K.length + 1 + 1 + j, (R, []))) := by
  refine ⟨?_, ?_, fun k hk => ?_, ?_⟩
  · rw [ap_get0, List.getElem?_cons_zero]
    congr 2
    apply List.ext_getElem (by simp)
    intro i h1 h2
    simp
  · rw [ap_get, List.getElem?_cons_succ, List.getElem?_cons_zero]
    congr 2
    apply List.ext_getElem (by simp [topT])
    intro i h1 h2
    simp [topT]
  · have hk' : k < l.length := by simpa using hk
    simp only [List.getElem_mapIdx]
    rw [show K.length + 1 + 1 + k = K.length + (k + 2) by omega, ap_get]
    simp [hk']
  · have e : (l.mapIdx fun j R => ((K.length + 1 + 1 + j, (R, [])) : Nat × Sw)).map (·.1) = (List.range l.length).map fun j => K.length + 1 + 1 + j := by
      apply List.ext_getElem (by simp)
      intro i h1 h2
      simp
    rw [e, List.nodup_cons, List.nodup_cons]
    refine ⟨?_, ?_, ?_⟩
    · simp; omega
    · simp; omega
    · rw [List.nodup_iff_pairwise_ne, List.pairwise_iff_getElem]
      intro i j h1 h2 hij
      simp
      omega
theorem jpos_le {L : List Sw} (h : JOk L) : jpos L ≤ 1792 * L.length := by
  unfold jpos
  induction L with
  | nil => simp
  | cons x L ih =>
    have h1 := posN_le (h x List.mem_cons_self).2.2
    have h2 := ih fun y hy => h y (List.mem_cons_of_mem _ hy)
    simp only [List.map_cons, List.sum_cons, List.length_cons]
    omega
theorem l0_nil {K : Hp} {l : List Rad} {L0 : List (Nat × Sw)} (h : l.mapIdx (fun j R => (K.length + 1 + 1 + j, (R, []))) = L0) {x : Nat × Sw} (hx : x ∈ L0) : x.2.2 = [] := by
  subst h
  obtain ⟨i, hi, rfl⟩ := List.getElem_of_mem hx
  simp
theorem jn_Decode {l : List Rad} (hs : ∀ R ∈ l, Seeds R ∧ Lens R) (h0 : l ≠ []) (h : decOk l = true) : TV.pu 8 [.one (cRads l)] = some (decA (jdec l)) := by
  refine run8 (by simp) ?_
  have h3 : l.length ≤ 3 ∧ l.all rOk = true := by simpa [decOk] using h
  have hC := jn_cw hs (by omega)
  have ha : l.any (fun R => !rOk R) = false := by
    rw [List.any_eq_false]
    intro R hR
    have := List.all_eq_true.1 h3.2 R hR
    simp [this]
  rw [ha] at hC
  obtain ⟨K, hK1, hK2, hCl⟩ := rads_Clone (r := l) (H := [.clo [] false, .clo [] false]) (by omega)
  have h3' : ¬ 3 < (l.length : Int) := by omega
  have hl0 : 0 < l.length := List.length_pos_iff.2 h0
  have hmk := fun nid => mk_told (nid := nid) (n := l.length) hl0 (by omega)
  simp only [cRads] at hC hCl
  simp -implicitDefEqProofs [Tryz.f8, cRads, vmove, isNil, h3', hC, hCl, hmk, hl0]
  obtain ⟨L0, hL0⟩ : ∃ L0 : List (Nat × Sw), l.mapIdx (fun j R => (K.length + 1 + 1 + j, (R, []))) = L0 := ⟨_, rfl⟩
  have hLs : L0.map (·.2) = l.map fun R => (R, []) := by rw [← hL0]; apply List.ext_getElem (by simp); intro i h1 h2; simp
  have hL0l : L0.length = l.length := by rw [← hL0]; simp
  obtain ⟨S, hS⟩ : ∃ S, jdec l = S := ⟨_, rfl⟩
  rw [hS]
  have hD0 := dh_start (K := K) (l := l)
  rw [hL0] at hD0
  obtain ⟨a, ha⟩ : ∃ a, K.length = a := ⟨_, rfl⟩
  obtain ⟨H0, hH0⟩ : ∃ H0, (K ++ Ent.clo (List.map cRad l) false :: Ent.opn (List.map (fun j => [Cell.sl (K.length + 1 + 1 + j) 0 0 0]) (List.range l.length)) false :: List.replicate l.length (Ent.clo [] false)) = H0 := ⟨_, rfl⟩
  rw [hH0, ha] at hD0
  rw [hH0, ha]
  have hJ0 : JOk (L0.map (·.2)) := by
    rw [hLs]
    intro x hx
    obtain ⟨R, hR, rfl⟩ := List.mem_map.1 hx
    exact ⟨(hs R hR).1, (hs R hR).2, List.all_eq_true.1 h3.2 R hR⟩
  have hp0 : jpos (L0.map (·.2)) ≤ 3 * 1792 := by
    have := jpos_le hJ0
    rw [List.length_map, hL0l] at this
    have : 1792 * l.length ≤ 1792 * 3 := Nat.mul_le_mul_left _ h3.1
    omega
  have hn64 : l.length ≤ 64 := by omega
  obtain ⟨I, hI⟩ : ∃ I : Nat → St → Prop, ∀ k s', I k s' ↔ (∃ e G L, s' = ⟨e, G⟩ ∧ e 5 = .one (.sl a 0 l.length l.length) ∧ e 6 = .one (.sl (a + 1) 0 l.length l.length) ∧ (k = jpos (L.map (·.2))) ∧ (DH G a (a + 1) L) ∧ (JOk (L.map (·.2))) ∧ (L.length = l.length) ∧ (∃ m, jpos (L.map (·.2)) ≤ m ∧ jall m (L.map (·.2)) = S) ∧ (∀ x ∈ L, x.2.2.length + jpos (L.map (·.2)) ≤ 6000)) := ⟨_, fun _ _ => Iff.rfl⟩
  refine wpL_ind I ?_ (jpos (L0.map (·.2))) _ ((hI _ _).2 ⟨_, H0, L0, (by first | rfl | (simp [ha]; done) | (simp [ha]; rfl) | (simp [ha]; and_intros <;> rfl)), by simp, by simp, rfl, hD0, hJ0, hL0l, ⟨jpos (L0.map (·.2)), Nat.le_refl _, by rw [← hS, jdec, hLs]⟩, (fun x hx => by have : x.2.2 = [] := l0_nil hL0 hx; rw [this]; simp only [List.length_nil]; omega)⟩)
  intro k stI hstI
  obtain ⟨e, G, L, rfl, e5, e6, hk, hG, hJ, hLl, hm, hb⟩ := (hI _ _).1 hstI
  subst hk
  obtain ⟨v, K2, hRd, hv, hKl, L2, hD2, hL2l, hL2⟩ := jn_round hG hJ hLl hn64 (fun x hx => by have := hb x hx; omega)
  subst hv
  cases hf : jfind (L.map (·.2)) with
  | none =>
    have hj : jround (L.map (·.2)) = none := by rw [jround, hf]; rfl
    rw [hj] at hRd hL2
    simp only [Option.isSome_none, Option.getD_none] at hRd hL2
    simp -implicitDefEqProofs [e5, e6, hRd, vmove, isNil, hD2.top, topT_len, hL2l, hLl]
    obtain ⟨m, hm1, hm2⟩ := hm
    rw [jall_none hf, ← hL2] at hm2
    subst hm2
    have hbl : ∀ x ∈ L2, x.2.2.length ≤ 6000 := fun x hx => by
      obtain ⟨j, hj, rfl⟩ := List.getElem_of_mem hx
      have hjL : j < L.length := by omega
      have h1 := hb _ (List.getElem_mem hjL)
      have h2 : L2[j].2 = L[j].2 := by
        have : (L2.map (·.2))[j]'(by simpa using hj) = (L.map (·.2))[j]'(by simpa using hjL) := by simp only [hL2]
        simpa using this
      rw [h2]; omega
    have hL2n : L2.length = l.length := hL2l.trans hLl
    obtain ⟨J, hJ⟩ : ∃ J : Nat → St → Prop, ∀ k s', J k s' ↔ (∃ e G i, s' = ⟨e, G⟩ ∧ e 5 = .one (.sl a 0 l.length l.length) ∧ e 6 = .one (.sl (a + 1) 0 l.length l.length) ∧ e 24 = .one (.sl (a + 1) 0 l.length l.length) ∧ e 25 = vI .i64 l.length ∧ e 26 = vI .i64 (i : Nat) ∧ (i + k = l.length) ∧ (DH G a (a + 1) (sortTo L2 i))) := ⟨_, fun _ _ => Iff.rfl⟩
    refine wpL_ind J ?_ l.length _ ((hJ _ _).2 ⟨_, K2, 0, (by first | rfl | (simp [e5, e6]; done) | (simp [e5, e6]; rfl) | (simp [e5, e6]; and_intros <;> rfl)), by simp [e5], by simp [e6], by simp, by simp, by simp, by omega, by rw [sortTo_zero]; exact hD2⟩)
    clear e5 e6 hG
    intro k stJ hstJ
    obtain ⟨e, G, i, rfl, e5, e6, e24, e25, e26, hi, hG⟩ := (hJ _ _).1 hstJ
    by_cases c : i < l.length
    · have c' : (i : Int) < l.length := by omega
      have hiL : i < L2.length := by omega
      have hiM : i < (sortTo L2 i).length := by rw [sortTo_len]; exact hiL
      obtain ⟨x, hx⟩ : ∃ x, L2[i] = x := ⟨_, rfl⟩
      have hMi : (sortTo L2 i)[i] = x := by rw [sortTo_get hiM hiL (Nat.le_refl _), hx]
      have hxb := hbl x (hx ▸ List.getElem_mem hiL)
      have htT : (topT (sortTo L2 i))[i]? = some [.sl x.1 0 x.2.2.length x.2.2.length] := by simp [topT, List.getElem?_eq_getElem hiM, hMi]
      have hr := hG.row i hiM
      rw [hMi] at hr
      have hso := sort_strs hr (by omega)
      have hN := hG.sort hiM hMi
      have hN2 : (sortTo L2 i).set i (x.1, (x.2.1, ssort x.2.2)) = sortTo L2 (i + 1) := by rw [sortTo_succ hiL, hx]
      rw [hN2] at hN
      obtain ⟨G2, hG2⟩ : ∃ G2, G.set x.1 (.clo ((ssort x.2.2).map cStr) false) = G2 := ⟨_, rfl⟩
      rw [hG2] at hN hso
      have w_i : IntKind.i64.wrap ((i : Int) + 1) = ((i + 1 : Nat) : Int) := by rw [w64_id (by omega) (by omega)]; omega
      simp -implicitDefEqProofs [e24, e25, e26, c', hG.top, topT_len, sortTo_len, hL2n, htT, hso, vmove, isNil]
      refine ⟨c, ?_⟩
      exact ⟨(k - 1), by omega, (hJ _ _).2 ⟨_, G2, i + 1, (by first | rfl | (simp [e5, e6, e24, e25, w_i]; done) | (simp [e5, e6, e24, e25, w_i]; rfl) | (simp [e5, e6, e24, e25, w_i]; and_intros <;> rfl)), by simp [e5, w_i], by simp [e6, w_i], by simp [e24, w_i], by simp [e25, w_i], by simp [w_i], by omega, hN⟩⟩
    · have c' : ¬ (i : Int) < l.length := by omega
      have hi' : i = l.length := by omega
      subst hi'
      have hf1 := hG.fz1 (n := l.length) (by rw [sortTo_len, hL2n])
      have hf2 := hG.rad
      have hsa := sortTo_all (L := L2) (k := l.length) (by omega)
      have hs1 : (sortTo L2 l.length).map (·.2.2) = (L2.map (·.2)).map fun x => ssort x.2 := by
        have := congrArg (List.map fun x : Sw => x.2) hsa
        rw [List.map_map, List.map_map] at this
        exact this
      have hs2 : (sortTo L2 l.length).map (fun x => cRad x.2.1) = ((L2.map (·.2)).map (·.1)).map cRad := by
        have := congrArg (List.map fun x : Sw => cRad x.1) hsa
        rw [List.map_map, List.map_map] at this
        rw [List.map_map]
        exact this
      rw [hs1] at hf1
      rw [hs2] at hf2
      obtain ⟨S, hS2⟩ : ∃ S, L2.map (·.2) = S := ⟨_, rfl⟩
      have hSl : S.length = l.length := by rw [← hS2, List.length_map, hL2n]
      rw [hS2] at hf1 hf2 ⊢
      have hf3 : fzc 5 G (.sl a 0 l.length l.length) = some (cRads (S.map (·.1))) := by
        unfold fzc
        simp only [hf2, List.length_map, hSl, if_true, List.drop_zero]
        rw [List.take_of_length_le (by simp [hSl])]
        rfl
      simp -implicitDefEqProofs [-fzc, e5, e6, e25, e26, c', hf1, hf3, fz_v, decA, vmove, isNil]
  | some r =>
    obtain ⟨i, key⟩ := r
    have hj : jround (L.map (·.2)) = some ((L.map (·.2)).mapIdx (jtake i key)) := by rw [jround, hf]; rfl
    rw [hj] at hRd hL2
    simp only [Option.isSome_some, Option.getD_some] at hRd hL2
    simp -implicitDefEqProofs [e5, e6, hRd, vmove, isNil]
    have hlt := jpos_lt hf
    rw [← hL2] at hlt
    obtain ⟨m, hm1, hm2⟩ := hm
    obtain ⟨m', rfl⟩ : ∃ m', m = m' + 1 := ⟨m - 1, by omega⟩
    rw [jall_some hf, ← hL2] at hm2
    have hb2 : ∀ x ∈ L2, x.2.2.length + jpos (L2.map (·.2)) ≤ 6000 := fun x hx => by
      obtain ⟨j, hj, rfl⟩ := List.getElem_of_mem hx
      have hjL : j < L.length := by omega
      have h1 := hb _ (List.getElem_mem hjL)
      have h2 : L2[j].2 = jtake i key j L[j].2 := by
        have : (L2.map (·.2))[j]'(by simpa using hj) = ((L.map (·.2)).mapIdx (jtake i key))[j]'(by simpa using hjL) := by simp only [hL2]
        simpa using this
      rw [h2]
      have h3 : (jtake i key j L[j].2).2.length ≤ L[j].2.2.length + 1 := by
        unfold jtake
        split
        · simp
        · omega
      omega
    exact ⟨(jpos (L2.map (·.2))), by omega, (hI _ _).2 ⟨_, K2, L2, (by first | rfl | (simp [e5, e6]; done) | (simp [e5, e6]; rfl) | (simp [e5, e6]; and_intros <;> rfl)), by simp [e5], by simp [e6], rfl, hD2, by rw [hL2]; exact jmap_ok hJ, hL2l.trans hLl, ⟨m', by omega, hm2⟩, hb2⟩⟩
end Go.Proofs.YtmgnmnogiajlgaaGreatF
end

section
/- Joint: Reports. -/
set_option maxRecDepth 8192
set_option maxHeartbeats 2000000
namespace Go.Proofs.YtmgnmnogiajlgaaGreatF
open Go Go.Proofs.Vm

abbrev Rp := List Ct × Bool
def cRep (r : Rp) : List CV := [cCts r.1, .v (.bool r.2)]
def cReps (l : List Rp) : CV := .arr (l.map cRep)
def rep1 (R : Rad) (x : Sw) : Rp := if (countsF R (ssort x.2)).1 = 0 ∧ emptyB x.1 = true then ((countsF R (ssort x.2)).2, true) else ([], false)
def repF (l : List Rad) : List Rp := List.zipWith rep1 l (jdec l)
theorem jall_len : ∀ (n : Nat) (L : List Sw), (jall n L).length = L.length
  | 0, _ => rfl
  | n + 1, L => by
    cases hf : jfind L with
    | none => rw [jall_none hf]
    | some r => rw [jall_some hf, jall_len n]; simp
theorem jall_told : ∀ (n : Nat) {L : List Sw} {c : Nat}, (∀ x ∈ L, x.2.length ≤ c) → ∀ x ∈ jall n L, x.2.length ≤ c + n
  | 0, _, _, h, x, hx => h x hx
  | n + 1, L, c, h, x, hx => by
    cases hf : jfind L with
    | none => rw [jall_none hf] at hx; have := h x hx; omega
    | some r =>
      rw [jall_some hf] at hx
      have := jall_told n (c := c + 1) (fun y hy => by
        obtain ⟨j, hj, rfl⟩ := List.getElem_of_mem hy
        have hjL : j < L.length := by simpa using hj
        rw [List.getElem_mapIdx]
        have h1 := h _ (List.getElem_mem hjL)
        unfold jtake
        split
        · simp; omega
        · omega) x hx
      omega
theorem jdec_len (l : List Rad) : (jdec l).length = l.length := by unfold jdec; rw [jall_len]; simp
theorem jdec_ok {l : List Rad} (hs : ∀ R ∈ l, Seeds R ∧ Lens R) (h : decOk l = true) : JOk (jdec l) ∧ ∀ x ∈ jdec l, x.2.length ≤ 6000 := by
  have h3 : l.length ≤ 3 ∧ l.all rOk = true := by simpa [decOk] using h
  have hJ0 : JOk (l.map fun r => (r, [])) := by
    intro x hx
    obtain ⟨R, hR, rfl⟩ := List.mem_map.1 hx
    exact ⟨(hs R hR).1, (hs R hR).2, List.all_eq_true.1 h3.2 R hR⟩
  have hp0 := jpos_le hJ0
  rw [List.length_map] at hp0
  have : 1792 * l.length ≤ 1792 * 3 := Nat.mul_le_mul_left _ h3.1
  refine ⟨jall_ok _ hJ0, fun x hx => ?_⟩
  have := jall_told _ (L := l.map fun r => (r, [])) (c := 0) (fun y hy => by obtain ⟨R, hR, rfl⟩ := List.mem_map.1 hy; simp) x hx
  omega
theorem st_rep {H : Hp} {a k n : Nat} {l : List Rp} {r : Rp} (h : H[a]? = some (.clo (l.map cRep) false)) (hk : k < l.length) (hn : l.length = n) :
    vstore Tryz.prog false H 69 (.one (.ptr ⟨a, k, 0, n⟩)) (.agg [.c (cCts r.1), .c (.v (.bool r.2))]) = some (H.set a (.clo ((l.set k r).map cRep) false)) := by
  subst hn
  have e : (List.map cRep l).modify k (fun e => Vm.wr e 0 (cRep r)) = List.map cRep (l.set k r) := by
    rw [List.map_set]
    apply List.ext_getElem (by simp)
    intro i h1 h2
    rw [List.getElem_modify, List.getElem_set]
    by_cases c : k = i
    · subst c; simp [cRep, wr]
    · rw [if_neg c, if_neg c]
  simp only [cRep, cCts] at h e
  simp [vstore, cellsOf?, h, hk, hasRef, Ent.wrC, cCts, e, cRep]
theorem jn_Reports_no {l : List Rad} (hs : ∀ R ∈ l, Seeds R ∧ Lens R) (hl : l.length < 4611686018427387904) (h : decOk l = false) : TV.pu 20 [.one (cRads l)] = some (.tup [(false, [.arr []]), (false, [.v (.int .i64 1)])]) := by
  refine run20 (by simp) ?_
  have hD := jn_Decode_no hs hl h
  simp only [cRads] at hD
  simp -implicitDefEqProofs [Tryz.f20, cRads, vmove, isNil, hD]
def repTo (l : List Rad) (S : List Sw) (i : Nat) : List Rp := (List.zipWith rep1 l S).mapIdx fun j x => if j < i then x else ([], false)
theorem jn_Reports {l : List Rad} (hs : ∀ R ∈ l, Seeds R ∧ Lens R) (h0 : l ≠ []) (h : decOk l = true) : TV.pu 20 [.one (cRads l)] = some (.tup [(false, [cReps (repF l)]), (false, [.v (.int .i64 0)])]) := by
  refine run20 (by simp) ?_
  have hD := jn_Decode hs h0 h
  have hSl := jdec_len l
  obtain ⟨hJ, hB⟩ := jdec_ok hs h
  have h3 : l.length ≤ 3 ∧ l.all rOk = true := by simpa [decOk] using h
  have hl0 : 0 < l.length := List.length_pos_iff.2 h0
  unfold repF
  obtain ⟨S, hS⟩ : ∃ S, jdec l = S := ⟨_, rfl⟩
  rw [hS] at hD hSl hJ hB ⊢
  simp only [cRads, decA, cTold, cSs] at hD
  have hmk : ∀ nid, vmakeSlice Tryz.prog false nid 65 (vI .i64 l.length) (vI .i64 l.length) = some (.one (.sl nid 0 l.length l.length), [.clo ((repTo l S 0).map cRep) false], []) := fun nid => by
    rw [vmakeSlice_eq es65 el69, if_pos ⟨by omega, rfl, by simp [small]; omega, by omega⟩]
    have : (repTo l S 0).map cRep = List.replicate l.length [.arr [], .v (.bool false)] := by
      apply List.ext_getElem (by simp [repTo, hSl])
      intro i h1 h2
      simp [repTo, cRep, cCts]
    rw [this]
    simp
  simp -implicitDefEqProofs [Tryz.f20, cRads, vmove, isNil, hD, hmk]
  obtain ⟨I, hI⟩ : ∃ I : Nat → St → Prop, ∀ k s', I k s' ↔ (∃ e G d i, s' = ⟨e, G⟩ ∧ e 0 = .one (.c (cRads l)) ∧ e 4 = .one (.c (cTold (S.map fun x => ssort x.2))) ∧ e 5 = .one (.c (cRads (S.map (·.1)))) ∧ e 7 = .one (.sl d 0 l.length l.length) ∧ e 24 = vI .i64 l.length ∧ e 25 = vI .i64 (i : Nat) ∧ (i + k = l.length) ∧ (G[d]? = some (.clo ((repTo l S i).map cRep) false))) := ⟨_, fun _ _ => Iff.rfl⟩
  refine wpL_ind I ?_ l.length _ ((hI _ _).2 ⟨_, _, 1, 0, (by first | rfl | (simp [cRads, cTold, cSs]; done) | (simp [cRads, cTold, cSs]; rfl) | (simp [cRads, cTold, cSs]; and_intros <;> rfl)), by simp [cRads], by simp [cTold, cSs], by simp [cRads], by simp, by simp, by simp, by omega, rfl⟩)
  intro k stI hstI
  obtain ⟨e, G, d, i, rfl, e0, e4, e5, e7, e24, e25, hi, hG⟩ := (hI _ _).1 hstI
  have hZl : (List.zipWith rep1 l S).length = l.length := by simp [hSl]
  have hrl : ∀ q, (repTo l S q).length = l.length := fun q => by simp [repTo, hSl]
  by_cases c : i < l.length
  · have c' : (i : Int) < l.length := by omega
    have hiS : i < S.length := by omega
    obtain ⟨R, hR⟩ : ∃ R, l[i] = R := ⟨_, rfl⟩
    obtain ⟨x, hx⟩ : ∃ x, S[i] = x := ⟨_, rfl⟩
    have hli : l[i]? = some R := by rw [List.getElem?_eq_getElem c, hR]
    have hSi : S[i]? = some x := by rw [List.getElem?_eq_getElem hiS, hx]
    have hRm : R ∈ l := hR ▸ List.getElem_mem c
    have hxm : x ∈ S := hx ▸ List.getElem_mem hiS
    have hCt := jn_Counts (keys := ssort x.2) (hs R hRm).1 (hs R hRm).2 (by rw [ssort_len]; have := hB x hxm; omega)
    have hEm := rd_Empty (hJ x hxm).1 (hJ x hxm).2.1
    have hri : i < (repTo l S i).length := by rw [hrl]; exact c
    have hz : (List.zipWith rep1 l S)[i]'(by omega) = rep1 R x := by simp [hR, hx]
    have hnx : repTo l S (i + 1) = (repTo l S i).set i (rep1 R x) := by
      apply List.ext_getElem (by simp [repTo])
      intro j h1 h2
      rw [List.getElem_set]
      simp only [repTo, List.getElem_mapIdx]
      by_cases e : i = j
      · subst e; rw [if_pos (by omega), if_pos rfl, hz]
      · rw [if_neg e]
        by_cases e2 : j < i
        · rw [if_pos e2, if_pos (by omega)]
        · rw [if_neg e2, if_neg (by omega)]
    have hno : rep1 R x = ([], false) → repTo l S (i + 1) = repTo l S i := fun h => by
      rw [hnx, h]
      apply List.ext_getElem (by simp)
      intro j h1 h2
      rw [List.getElem_set]
      split
      · rename_i e; subst e
        simp [repTo]
      · rfl
    have hGd := (List.getElem?_eq_some_iff.1 hG).1
    have hG1 : (G ++ [Ent.clo [] false])[d]? = some (.clo ((repTo l S i).map cRep) false) := by rw [List.getElem?_append_left hGd]; exact hG
    have hGp : ∀ T : Hp, (G ++ T)[d]? = some (.clo ((repTo l S i).map cRep) false) := fun T => by rw [List.getElem?_append_left hGd]; exact hG
    have hri' : (repTo l S i)[i]? = some (repTo l S i)[i] := List.getElem?_eq_getElem hri
    have hst := fun r => st_rep (r := r) hG1 hri (hrl i)
    unfold rep1 at hnx hno
    obtain ⟨er, fl, hcf⟩ : ∃ er fl, countsF R (ssort x.2) = (er, fl) := ⟨_, _, rfl⟩
    rw [hcf] at hCt hnx hno
    obtain ⟨em, hem⟩ : ∃ em, emptyB x.1 = em := ⟨_, rfl⟩
    rw [hem] at hEm hnx hno
    dsimp only at hnx hno
    have w_i : IntKind.i64.wrap ((i : Int) + 1) = ((i + 1 : Nat) : Int) := by rw [w64_id (by omega) (by omega)]; omega
    simp only [cRad, cRws, cRw, cSs, countsA] at hCt hEm
    by_cases he0 : er = 0
    · subst he0
      cases em with
      | true =>
        rw [if_pos ⟨rfl, rfl⟩] at hnx
        have hst := hst (fl, true)
        rw [← hnx] at hst
        obtain ⟨G2, hG2⟩ : ∃ G2, (G ++ [Ent.clo [] false]).set d (.clo ((repTo l S (i + 1)).map cRep) false) = G2 := ⟨_, rfl⟩
        have hG2d : G2[d]? = some (.clo ((repTo l S (i + 1)).map cRep) false) := by rw [← hG2]; exact set_self hG1
        rw [hG2] at hst
        simp only [cCts] at hst
        simp -implicitDefEqProofs [e0, e4, e5, e7, e24, e25, c', hli, hSi, cRads, cTold, cRad, cRws, cRw, cSs, cCts, hCt, hEm, hGp, hrl, hri', hst, cellsOf?, ownz, wr, vmove, isNil]
        refine ⟨c, rfl, ?_⟩
        exact ⟨(k - 1), by omega, (hI _ _).2 ⟨_, G2, d, i + 1, (by first | rfl | (simp [e0, e4, e5, e7, e24, cRads, cTold, cSs, w_i]; done) | (simp [e0, e4, e5, e7, e24, cRads, cTold, cSs, w_i]; rfl) | (simp [e0, e4, e5, e7, e24, cRads, cTold, cSs, w_i]; and_intros <;> rfl)), by simp [e0, cRads, w_i], by simp [e4, cTold, cSs, w_i], by simp [e5, cRads, w_i], by simp [e7, w_i], by simp [e24, w_i], by simp [w_i], by omega, hG2d⟩⟩
      | false =>
        have hno := hno (by simp)
        simp -implicitDefEqProofs [e0, e4, e5, e24, e25, c', hli, hSi, cRads, cTold, cRad, cRws, cRw, cSs, cCts, hCt, hEm, vmove, isNil]
        exact ⟨(k - 1), by omega, (hI _ _).2 ⟨_, G, d, i + 1, (by first | rfl | (simp [e0, e4, e5, e7, e24, cRads, cTold, cSs, w_i]; done) | (simp [e0, e4, e5, e7, e24, cRads, cTold, cSs, w_i]; rfl) | (simp [e0, e4, e5, e7, e24, cRads, cTold, cSs, w_i]; and_intros <;> rfl)), by simp [e0, cRads, w_i], by simp [e4, cTold, cSs, w_i], by simp [e5, cRads, w_i], by simp [e7, w_i], by simp [e24, w_i], by simp [w_i], by omega, by rw [hno]; exact hG⟩⟩
    · have hno := hno (by simp [he0])
      simp -implicitDefEqProofs [e0, e4, e24, e25, c', hli, hSi, cRads, cTold, cRad, cRws, cRw, cSs, cCts, hCt, he0, vmove, isNil]
      exact ⟨(k - 1), by omega, (hI _ _).2 ⟨_, G, d, i + 1, (by first | rfl | (simp [e0, e4, e5, e7, e24, cRads, cTold, cSs, w_i]; done) | (simp [e0, e4, e5, e7, e24, cRads, cTold, cSs, w_i]; rfl) | (simp [e0, e4, e5, e7, e24, cRads, cTold, cSs, w_i]; and_intros <;> rfl)), by simp [e0, cRads, w_i], by simp [e4, cTold, cSs, w_i], by simp [e5, cRads, w_i], by simp [e7, w_i], by simp [e24, w_i], by simp [w_i], by omega, by rw [hno]; exact hG⟩⟩
  · have c' : ¬ (i : Int) < l.length := by omega
    have hi' : i = l.length := by omega
    subst hi'
    have hall : repTo l S l.length = List.zipWith rep1 l S := by
      apply List.ext_getElem (by simp [repTo])
      intro j h1 h2
      simp only [repTo, List.getElem_mapIdx]
      rw [if_pos (by omega)]
    rw [hall] at hG
    have htk : List.take l.length ((List.zipWith rep1 l S).map cRep) = (List.zipWith rep1 l S).map cRep := List.take_of_length_le (by rw [List.length_map]; omega)
    simp -implicitDefEqProofs [e7, e24, e25, c', hG, hSl, vmove, isNil, cReps]
    rw [List.take_of_length_le (by simp [hSl])]
end Go.Proofs.YtmgnmnogiajlgaaGreatF
end

section
/- One key alone; a fixed answer. -/
set_option maxRecDepth 8192
set_option maxHeartbeats 1000000
namespace Go.Proofs.YtmgnmnogiajlgaaGreatF
open Go Go.Proofs.Vm

def aK (k : ByteArray) (L : List Pkt) : List ByteArray := if L = [] then [] else [k]
theorem freshB_enc {s h : Int} {bits rows cols : Nat} {K : List ByteArray} {L : List Pkt} {k : ByteArray} : freshB (encRad s h bits rows cols K L) k = !hasB (hrow s 0) h (bitsOf (hrow s 0) h bits L) k := rfl
theorem add_alone {s h : Int} {bits rows cols : Nat} (hd : Dim h bits rows cols) {L : List Pkt} {k : ByteArray} {b : Int} (hL : ∀ x ∈ L, x.1 = k) : addRad (encRad s h bits rows cols (aK k L) L) k b = encRad s h bits rows cols (aK k (L ++ [(k, b)])) (L ++ [(k, b)]) := by
  rw [encRad_add hd.1]
  congr 1
  have hne : L ++ [(k, b)] ≠ [] := by simp
  by_cases hL0 : L = []
  · subst hL0
    have hf : freshB (encRad s h bits rows cols (aK k []) []) k = true := by rw [freshB_enc, hasB_nil hd.1 hd.2.2.1]; rfl
    rw [if_pos hf]
    simp [aK]
  · have hf : freshB (encRad s h bits rows cols (aK k L) L) k = false := by
      rw [freshB_enc, hasB_of hd.1]
      · rfl
      · cases L with
        | nil => exact absurd rfl hL0
        | cons x t => exact ⟨x.2, by rw [← hL x List.mem_cons_self]; exact List.mem_cons_self⟩
    rw [if_neg (by rw [hf]; decide)]
    simp [aK, hL0]
theorem pure_alone {s h : Int} {bits rows cols : Nat} (hd : Dim h bits rows cols) {L : List Pkt} {k : ByteArray} (hk : k.size = 37) (hL : ∃ b, (k, b) ∈ L) : pureOf (encRad s h bits rows cols [k] L) [] ≠ none := by
  obtain ⟨d1, d2, d3, d4, d5, d6, d7, d8⟩ := hd
  intro hn
  have hp := pln_lt (s := s) (i := 0) d7 k
  have h1 := List.findSome?_eq_none_iff.1 hn 0 (List.mem_range.2 (by show 0 < (encRows s rows cols [k] L).length; rw [encRows_len]; omega))
  have e : (encRad s h bits rows cols [k] L).rows.getD 0 [] = encRow (pln s 0 cols) [k] L cols := by
    have : 0 < (encRows s rows cols [k] L).length := by rw [encRows_len]; omega
    show (encRows s rows cols [k] L).getD 0 [] = _
    rw [List.getD_eq_getElem?_getD, List.getElem?_eq_getElem this, Option.getD_some, encRows_get]
  unfold pureR at h1
  rw [e, encRow_len] at h1
  have h2 := List.findSome?_eq_none_iff.1 h1 (pln s 0 cols k) (List.mem_range.2 hp)
  have hq : pln s 0 cols k < (encRow (pln s 0 cols) [k] L cols).length := by rw [encRow_len]; exact hp
  rw [List.getD_eq_getElem?_getD, List.getElem?_eq_getElem hq, Option.getD_some, encRow_get] at h2
  have hc1 : (encC (pln s 0 cols) [k] L (pln s 0 cols k)).1 = k := by
    simp only [encC]
    rw [List.filter_cons, if_pos (by simp), List.filter_nil, xorA_one hk]
  have hc2 : (encC (pln s 0 cols) [k] L (pln s 0 cols k)).2.1 = 1 := by simp [encC]
  have hok : okC (encRad s h bits rows cols [k] L) [] 0 cols (pln s 0 cols k) (encC (pln s 0 cols) [k] L (pln s 0 cols k)) = true := by
    unfold okC
    rw [hc1, hc2]
    have h3 : rplc (encRad s h bits rows cols [k] L) k 0 cols = ((pln s 0 cols k : Nat) : Int) := by
      have := hcell_range (hrow s ((0 : Nat) + 1)) k (cols : Int) (by omega)
      show hcell (hrow s ((0 : Nat) + 1)) k (cols : Int) = (((hcell (hrow s ((0 : Nat) + 1)) k (cols : Int)).toNat : Nat) : Int)
      omega
    have h4 : hasB (encRad s h bits rows cols [k] L).fs (encRad s h bits rows cols [k] L).h (encRad s h bits rows cols [k] L).bits k = true := hasB_of d1 hL
    rw [h3, h4]
    simp
  rw [if_pos hok] at h2
  exact absurd h2 (by simp)
theorem peel_alone {s h : Int} {bits rows cols : Nat} (hd : Dim h bits rows cols) {L : List Pkt} {k : ByteArray} (hk : k.size = 37) (hL : ∃ b, (k, b) ∈ L) : peel (encRad s h bits rows cols [k] L) = ([k], encRad s h bits rows cols [] L) := by
  obtain ⟨T, K', h1, h2, h3⟩ := peel_enc (s := s) (h := h) (bits := bits) (rows := rows) (cols := cols) (L := L) (K := [k]) (fun x hx => by rw [List.mem_singleton.1 hx]; exact hk)
  rw [h1]
  cases T with
  | nil =>
    have : K' = [k] := List.perm_singleton.1 h2.symm
    subst this
    exact absurd h3 (pure_alone hd hk hL)
  | cons x T =>
    have hl := h2.length_eq
    simp only [List.length_cons, List.length_nil, List.length_append] at hl
    obtain rfl : T = [] := List.length_eq_zero_iff.1 (by omega)
    obtain rfl : K' = [] := List.length_eq_zero_iff.1 (by omega)
    have : [x] = [k] := List.perm_singleton.1 h2.symm
    rw [this]
    rw [show ssort [k] = [k] from ssort_of_srt (List.pairwise_singleton _ _)]
theorem peel_none {s h : Int} {bits rows cols : Nat} {L : List Pkt} : peel (encRad s h bits rows cols [] L) = ([], encRad s h bits rows cols [] L) := by
  obtain ⟨T, K', h1, h2, h3⟩ := peel_enc (s := s) (h := h) (bits := bits) (rows := rows) (cols := cols) (L := L) (K := []) (fun x hx => by simp at hx)
  have hl := h2.length_eq
  simp only [List.length_nil, List.length_append] at hl
  obtain rfl : T = [] := List.length_eq_zero_iff.1 (by omega)
  obtain rfl : K' = [] := List.length_eq_zero_iff.1 (by omega)
  rw [h1, ssort_nil]

def aKey : ByteArray := ⟨#[48, 49, 50, 51, 52, 53, 54, 55, 56, 57, 97, 98, 99, 100, 101, 102, 48, 49, 50, 51, 52, 53, 54, 55, 56, 57, 97, 98, 99, 100, 101, 102, 17, 0, 1, 0, 2]⟩
end Go.Proofs.YtmgnmnogiajlgaaGreatF
end

section
/- Joint: the counts of what came; one switch alone. -/
set_option maxRecDepth 8192
set_option maxHeartbeats 1000000
namespace Go.Proofs.YtmgnmnogiajlgaaGreatF
open Go Go.Proofs.Vm Go.Proofs.Vm.Fld

theorem dot_redR : ∀ (r y : List Int), PP ∣ dot (redR r) y - dot r y
  | [], y => by simp [redR, dot_nil]
  | a :: r, [] => by simp [redR, dot_nil']
  | a :: r, b :: y => by
    have h1 := dot_redR r y
    have h2 := dvd_emod PP a
    have e : dot (redR (a :: r)) (b :: y) - dot (a :: r) (b :: y) = (a % PP - a) * b + (dot (redR r) y - dot r y) := by
      show (a % PP * b + dot (redR r) y) - (a * b + dot r y) = _
      rw [Int.sub_mul]
      omega
    rw [e]
    exact Int.dvd_add (Int.dvd_mul_of_dvd_left h2) h1
theorem ann_red {M : List (List Int)} {y : List Int} : Ann PP (M.map redR) y ↔ Ann PP M y := by
  constructor
  · intro h r hr
    have h1 := h (redR r) (List.mem_map.2 ⟨r, hr, rfl⟩)
    have h2 := dot_redR r y
    have := Int.dvd_sub h1 h2
    rwa [show dot (redR r) y - (dot (redR r) y - dot r y) = dot r y by omega] at this
  · intro h r hr
    obtain ⟨x, hx, rfl⟩ := List.mem_map.1 hr
    have := Int.dvd_add (dot_redR x y) (h x hx)
    rwa [show dot (redR x) y - dot x y + dot x y = dot (redR x) y by omega] at this
theorem wOf_bound {w : Pkt → Int} {B : Int} {L : List Pkt} (hw : ∀ x ∈ L, 0 ≤ w x ∧ w x ≤ B) (k : ByteArray) : 0 ≤ wOf w L k ∧ wOf w L k ≤ (L.length : Int) * B := by
  unfold wOf
  have h1 := sum_bound (b := B) (l := (L.filter fun x => decide (x.1 = k)).map w) (fun y hy => by
    obtain ⟨x, hx, rfl⟩ := List.mem_map.1 hy
    exact hw x (List.mem_filter.1 hx).1)
  refine ⟨h1.1, Int.le_trans h1.2 ?_⟩
  rw [List.length_map]
  by_cases hB : 0 ≤ B
  · exact Int.mul_le_mul_of_nonneg_right (by have := List.length_filter_le (fun x : Pkt => decide (x.1 = k)) L; omega) hB
  · cases L with
    | nil => simp
    | cons x t => have := hw x List.mem_cons_self; omega
theorem one_sol {m : List (List Int)} {b : List Int} {n : Nat} {x : List Int} (hT : Fld.Told PP ((wideR m b).map redR) n (solR m b n)) (h0 : (solR m b n).1 = 0) (hx : x.length = n) (ha : Ann PP (wideR m b) (x ++ [-1])) (hb : ∀ j, 0 ≤ at0 x j ∧ at0 x j < PP) : ∀ j, j < n → at0 (solR m b n).2 j = at0 x j := fun j hj => by
  obtain ⟨h1, h2, h3, h4⟩ := hT.one h0
  have hd := h4 x (-1) hx (ann_red.2 ha) j hj
  have hr : 0 ≤ at0 (solR m b n).2 j ∧ at0 (solR m b n).2 j < PP := by
    rw [at0_get (by omega)]; exact h2 _ (List.getElem_mem _)
  have hbx := hb j
  obtain ⟨t, ht⟩ := hd
  have : t = 0 := by
    have h5 : PP * t < PP * 1 := by omega
    have h6 : PP * (-1) < PP * t := by omega
    have := Int.lt_of_mul_lt_mul_left h5 (by decide)
    have := Int.lt_of_mul_lt_mul_left h6 (by decide)
    omega
  rw [this] at ht
  omega
theorem at0_keys {keys : List ByteArray} {f : ByteArray → Int} {j : Nat} (hj : j < keys.length) : at0 (keys.map f) j = f keys[j] := by
  rw [at0_get (by simpa using hj), List.getElem_map]
/-- The counts of what came are those that came. -/
theorem counts_enc {s h : Int} {bits rows cols : Nat} (hd : Dim h bits rows cols) {K keys : List ByteArray} {L : List Pkt} (hn : keys.Nodup) (hL : ∀ x ∈ L, x.1 ∈ keys) (hl : L.length ≤ 1000) (hb : ∀ x ∈ L, 0 ≤ x.2 ∧ x.2 ≤ 1073741824) (h0 : (countsF (encRad s h bits rows cols K L) keys).1 = 0) :
    (countsF (encRad s h bits rows cols K L) keys).2 = keys.map fun k => (k, wOf (fun _ => 1) L k, wOf (·.2) L k) := by
  have hrw : ∀ x ∈ (encRad s h bits rows cols K L).rows, x.length = cols := fun x hx => by
    have hx : x ∈ encRows s rows cols K L := hx
    obtain ⟨j, hj, rfl⟩ := List.getElem_of_mem hx
    rw [encRows_get, encRow_len]
  have hrl : (encRad s h bits rows cols K L).rows.length = rows := encRows_len ..
  have hE := enc_ann (s := s) (h := h) (bits := bits) (rows := rows) (cols := cols) (K := K) hd.2.2.2.2.2.2.1 hn hL PP
  have hw1 : ∀ k, 0 ≤ wOf (fun _ => 1) L k ∧ wOf (fun _ => 1) L k < PP := fun k => by
    have := wOf_bound (w := fun _ => 1) (B := 1) (L := L) (fun x hx => by omega) k
    show _ ∧ _ < (2305843009213693951 : Int)
    omega
  have hw2 : ∀ k, 0 ≤ wOf (·.2) L k ∧ wOf (·.2) L k < PP := fun k => by
    have := wOf_bound (w := (·.2)) (B := 1073741824) (L := L) hb k
    show _ ∧ _ < (2305843009213693951 : Int)
    have : (L.length : Int) * 1073741824 ≤ 1000 * 1073741824 := Int.mul_le_mul_of_nonneg_right (by omega) (by omega)
    omega
  obtain ⟨R, hR⟩ : ∃ R, encRad s h bits rows cols K L = R := ⟨_, rfl⟩
  rw [hR] at h0 hE hrw hrl ⊢
  have hml : (eqAll R keys).length = R.rows.length * cols := eqTo_len hrw _ (Nat.le_refl _)
  have hfl : R.rows.flatten.length = R.rows.length * cols := by
    have : ∀ l : List (List RCl), (∀ x ∈ l, x.length = cols) → l.flatten.length = l.length * cols := fun l => by
      induction l with
      | nil => intro _; simp
      | cons a t ih =>
        intro h
        rw [List.flatten_cons, List.length_append, ih fun x hx => h x (List.mem_cons_of_mem _ hx), h a List.mem_cons_self, List.length_cons, Nat.add_mul, Nat.one_mul]
        omega
    exact this _ hrw
  have hT1 := solR_told (m := eqAll R keys) (b := rhs R pkF) (n := keys.length) (fun r hr => (eqAll_row R keys r hr).1) (by rw [hml, rhs, List.length_map, hfl])
  have hT2 := solR_told (m := eqAll R keys) (b := rhs R byF) (n := keys.length) (fun r hr => (eqAll_row R keys r hr).1) (by rw [hml, rhs, List.length_map, hfl])
  have at_b : ∀ (f : ByteArray → Int), (∀ k, 0 ≤ f k ∧ f k < PP) → ∀ j, 0 ≤ at0 (keys.map f) j ∧ at0 (keys.map f) j < PP := fun f hf j => by
    by_cases hj : j < keys.length
    · rw [at0_keys hj]; exact hf _
    · unfold at0
      rw [List.getD_eq_getElem?_getD, List.getElem?_eq_none (by simpa using hj)]
      simp [PP]
  unfold countsF at h0 ⊢
  by_cases c1 : rOk R = false
  · rw [if_pos c1] at h0; cases h0
  rw [if_neg c1] at h0 ⊢
  by_cases c2 : keysOk keys = false
  · rw [if_pos c2] at h0; cases h0
  rw [if_neg c2] at h0 ⊢
  by_cases c3 : 32 < R.rows.length * (R.rows.headD []).length ∨ 32 < keys.length
  · rw [if_pos c3] at h0; cases h0
  rw [if_neg c3] at h0 ⊢
  by_cases c4 : (solR (eqAll R keys) (rhs R pkF) keys.length).1 ≠ 0
  · rw [if_pos c4] at h0; exact absurd h0 c4
  rw [if_neg c4] at h0 ⊢
  by_cases c5 : (solR (eqAll R keys) (rhs R byF) keys.length).1 ≠ 0
  · rw [if_pos c5] at h0; exact absurd h0 c5
  rw [if_neg c5] at h0 ⊢
  by_cases c6 : bigA keys.length (solR (eqAll R keys) (rhs R pkF) keys.length).2 (solR (eqAll R keys) (rhs R byF) keys.length).2 = true
  · rw [if_pos c6] at h0; cases h0
  rw [if_neg c6]
  have e1 := one_sol hT1 (Classical.not_not.1 c4) (by simp) hE.1 (at_b _ hw1)
  have e2 := one_sol hT2 (Classical.not_not.1 c5) (by simp) hE.2 (at_b _ hw2)
  unfold ctsOf
  apply List.ext_getElem (by simp)
  intro j h1 h2
  have hj : j < keys.length := by simpa using h1
  simp only [List.getElem_map, List.getElem_range]
  rw [e1 j hj, e2 j hj, at0_keys hj, at0_keys hj, List.getD_eq_getElem?_getD, List.getElem?_eq_getElem hj]
  rfl
/-- One switch alone is peeled. -/
theorem jall1 : ∀ (n : Nat) (R : Rad) (out : List ByteArray), ∃ R' out', jall n [(R, out)] = [(R', out')] ∧ peelN n R out = (ssort out', R')
  | 0, R, out => ⟨R, out, rfl, rfl⟩
  | n + 1, R, out => by
    cases hp : pureOf R out with
    | none =>
      have hf : jfind [(R, out)] = none := jfind_eq_none fun j hj => by
        obtain rfl : j = 0 := by simpa using hj
        exact hp
      exact ⟨R, out, jall_none hf _, peelN_none hp _⟩
    | some key =>
      have hf : jfind [(R, out)] = some (0, key) := jfind_eq (by simp) hp fun j hj h => by omega
      obtain ⟨R', out', h1, h2⟩ := jall1 n (remR R key) (out ++ [key])
      refine ⟨R', out', ?_, by rw [peelN, hp]; exact h2⟩
      rw [jall_some hf]
      have : ([(R, out)] : List Sw).mapIdx (jtake 0 key) = [(remR R key, out ++ [key])] := by
        simp [jtake, jHit]
      rw [this, h1]
theorem jdec1 (R : Rad) : ∃ R' out', jdec [R] = [(R', out')] ∧ peel R = (ssort out', R') := by
  unfold jdec peel
  exact jall1 _ R []
end Go.Proofs.YtmgnmnogiajlgaaGreatF
end

section
/- Joint: the fixed answer. -/
set_option maxRecDepth 8192
set_option maxHeartbeats 2000000
namespace Go.Proofs.YtmgnmnogiajlgaaGreatF
open Go Go.Proofs.Vm Go.Proofs.Vm.Fld

theorem solR_one {m : List (List Int)} {b : List Int} {x0 : Int} (hT : Fld.Told PP ((wideR m b).map redR) 1 (solR m b 1)) (ha : Ann PP (wideR m b) ([x0] ++ [-1])) (hr : ∃ c, [1, c] ∈ wideR m b) : (solR m b 1).1 = 0 := by
  rcases hT.cases with h | ⟨h, _⟩ | ⟨h, _⟩
  · exact h
  · exact absurd (ann_red.2 ha) (hT.none h [x0] rfl)
  · obtain ⟨-, v, hv, hva, j, hj, hj1⟩ := hT.more h
    obtain rfl : j = 0 := by omega
    obtain ⟨v0, rfl⟩ : ∃ v0, v = [v0] := by
      match v, hv with
      | [v0], _ => exact ⟨v0, rfl⟩
    have : v0 = 1 := hj1
    subst this
    obtain ⟨c, hc⟩ := hr
    obtain ⟨t, ht⟩ := ann_red.1 hva _ hc
    have e : dot [1, c] ([1] ++ [0]) = 1 := by
      show 1 * 1 + (c * 0 + 0) = (1 : Int)
      omega
    rw [e] at ht
    have h6 : t = 0 ∨ 1 ≤ t ∨ t ≤ -1 := by omega
    simp only [PP] at ht
    omega
theorem eqRow_mem {R : Rad} {keys : List ByteArray} {i p : Nat} {r : List RCl} (hi : i < R.rows.length) (hr : R.rows[i] = r) (hp : p < r.length) : eqRow R keys i r.length p ∈ eqAll R keys := by
  have hd : R.rows.getD i [] = r := by rw [List.getD_eq_getElem?_getD, List.getElem?_eq_getElem hi, hr]; rfl
  refine List.mem_flatten.2 ⟨eqOf R keys i r.length, List.mem_map.2 ⟨i, List.mem_range.2 hi, by rw [hd]⟩, ?_⟩
  exact List.mem_map.2 ⟨p, List.mem_range.2 hp, by rw [hd]⟩
theorem wide_of {m : List (List Int)} {b : List Int} {r : List Int} (h : r ∈ m) (hl : b.length = m.length) : ∃ c, r ++ [c] ∈ wideR m b := by
  obtain ⟨i, hi, rfl⟩ := List.getElem_of_mem h
  have hb : i < b.length := by omega
  refine ⟨b[i], ?_⟩
  have hz : i < (wideR m b).length := by simp only [wideR, List.length_zipWith]; omega
  have : (wideR m b)[i] = m[i] ++ [b[i]] := by simp [wideR]
  rw [← this]
  exact List.getElem_mem _
theorem rows_len {R : Rad} {n : Nat} (h : ∀ x ∈ R.rows, x.length = n) (keys : List ByteArray) (f : RCl → Int) : (rhs R f).length = (eqAll R keys).length := by
  have hfl : ∀ l : List (List RCl), (∀ x ∈ l, x.length = n) → l.flatten.length = l.length * n := fun l => by
    induction l with
    | nil => intro _; simp
    | cons a t ih =>
      intro h
      rw [List.flatten_cons, List.length_append, ih fun x hx => h x (List.mem_cons_of_mem _ hx), h a List.mem_cons_self, List.length_cons, Nat.add_mul, Nat.one_mul]
      omega
  rw [rhs, List.length_map, hfl _ h]
  exact (eqTo_len h _ (Nat.le_refl _)).symm
/-- One key alone is counted. -/
theorem counts_one {s h : Int} {bits rows cols : Nat} (hd : Dim h bits rows cols) (hrc : rows * cols ≤ 32) {K : List ByteArray} {L : List Pkt} {k : ByteArray} (hk : k.size = 37) (hL : ∀ x ∈ L, x.1 = k) (hl : L.length ≤ 1000) (hb : ∀ x ∈ L, 0 ≤ x.2 ∧ x.2 ≤ 1073741824) (hok : rOk (encRad s h bits rows cols K L) = true) :
    countsF (encRad s h bits rows cols K L) [k] = (0, [(k, wOf (fun _ => 1) L k, wOf (·.2) L k)]) := by
  have hn : [k].Nodup := by simp
  have hL' : ∀ x ∈ L, x.1 ∈ [k] := fun x hx => by rw [hL x hx]; simp
  have hE := enc_ann (s := s) (h := h) (bits := bits) (rows := rows) (cols := cols) (K := K) hd.2.2.2.2.2.2.1 hn hL' PP
  have hrw : ∀ x ∈ (encRad s h bits rows cols K L).rows, x.length = cols := fun x hx => by
    have hx : x ∈ encRows s rows cols K L := hx
    obtain ⟨j, hj, rfl⟩ := List.getElem_of_mem hx
    rw [encRows_get, encRow_len]
  have hrl : (encRad s h bits rows cols K L).rows.length = rows := encRows_len ..
  have h0r : 0 < (encRad s h bits rows cols K L).rows.length := by rw [hrl]; exact hd.2.2.2.2.1
  have hp := pln_lt (s := s) (i := 0) (cols := cols) hd.2.2.2.2.2.2.1 k
  have hr0 : ∃ r, (encRad s h bits rows cols K L).rows[0] = r ∧ r.length = cols := ⟨_, rfl, hrw _ (List.getElem_mem h0r)⟩
  obtain ⟨r, hr, hrc0⟩ := hr0
  have hm := eqRow_mem (keys := [k]) h0r hr (p := pln s 0 cols k) (by omega)
  have he1 : eqRow (encRad s h bits rows cols K L) [k] 0 r.length (pln s 0 cols k) = [1] := by
    have hrg := hcell_range (hrow s ((0 : Int) + 1)) k (cols : Int) (by have := hd.2.2.2.2.2.2.1; omega)
    have e : rplc (encRad s h bits rows cols K L) k 0 cols = (pln s 0 cols k : Int) := by
      show hcell (hrow s ((0 : Nat) + 1 : Int)) k (cols : Int) = _
      unfold pln
      simp only [Int.natCast_zero]
      omega
    rw [hrc0]
    simp [eqRow, e]
  rw [he1] at hm
  have hT1 := solR_told (m := eqAll (encRad s h bits rows cols K L) [k]) (b := rhs (encRad s h bits rows cols K L) pkF) (n := 1) (fun r hr => (eqAll_row _ [k] r hr).1) (rows_len hrw _ _)
  have hT2 := solR_told (m := eqAll (encRad s h bits rows cols K L) [k]) (b := rhs (encRad s h bits rows cols K L) byF) (n := 1) (fun r hr => (eqAll_row _ [k] r hr).1) (rows_len hrw _ _)
  have s1 := solR_one hT1 hE.1 (wide_of hm (rows_len hrw _ _))
  have s2 := solR_one hT2 hE.2 (wide_of hm (rows_len hrw _ _))
  have h0 : (countsF (encRad s h bits rows cols K L) [k]).1 = 0 := by
    have hw1 := wOf_bound (w := fun _ => 1) (B := 1) (L := L) (fun x hx => by omega) k
    have hw2 := wOf_bound (w := (·.2)) (B := 1073741824) (L := L) hb k
    have hw3 : (L.length : Int) * 1073741824 ≤ 1000 * 1073741824 := Int.mul_le_mul_of_nonneg_right (by omega) (by omega)
    have b1 := one_sol hT1 s1 (x := [wOf (fun _ => 1) L k]) rfl hE.1 (fun j => by
      cases j with
      | zero => exact ⟨hw1.1, by show _ < (2305843009213693951 : Int); have := hw1.2; show wOf _ _ _ < _; omega⟩
      | succ j => simp [at0, PP]) 0 (by omega)
    have b2 := one_sol hT2 s2 (x := [wOf (·.2) L k]) rfl hE.2 (fun j => by
      cases j with
      | zero => exact ⟨hw2.1, by show _ < (2305843009213693951 : Int); have := hw2.2; show wOf _ _ _ < _; omega⟩
      | succ j => simp [at0, PP]) 0 (by omega)
    have hko : keysOk [k] = true := by rw [keysOk_iff]; intro i hi; have : i < 1 := hi; have e : i = 0 := (by omega); rw [e]; simp [keyOk, hk]
    have hhd : ((encRad s h bits rows cols K L).rows.headD []).length = cols := by
      have : (encRad s h bits rows cols K L).rows.headD [] = r := by rw [← hr, List.headD_eq_head?_getD, List.head?_eq_getElem?, List.getElem?_eq_getElem h0r]; rfl
      rw [this, hrc0]
    unfold countsF
    rw [if_neg (by rw [hok]; decide), if_neg (by rw [hko]; decide), if_neg (by rw [hrl, hhd]; simp; omega), if_neg (by show ¬ (solR _ _ 1).1 ≠ 0; rw [s1]; simp), if_neg (by show ¬ (solR _ _ 1).1 ≠ 0; rw [s2]; simp), if_neg ?_]
    intro hbig
    unfold bigA at hbig
    obtain ⟨i, hi, hbig⟩ := List.any_eq_true.1 hbig
    have hi0 : i = 0 := by have := List.mem_range.1 hi; simp at this; exact this
    subst hi0
    have e1 : at0 (solR (eqAll (encRad s h bits rows cols K L) [k]) (rhs (encRad s h bits rows cols K L) pkF) [k].length).2 0 = wOf (fun _ => 1) L k := b1
    have e2 : at0 (solR (eqAll (encRad s h bits rows cols K L) [k]) (rhs (encRad s h bits rows cols K L) byF) [k].length).2 0 = wOf (·.2) L k := b2
    rw [e1, e2] at hbig
    simp only [Bool.or_eq_true, decide_eq_true_eq] at hbig
    omega
  have h2 := counts_enc hd hn hL' hl hb h0
  exact Prod.ext h0 h2
theorem ct_bin {H : Hp} {a b : ByteArray} {x y x2 y2 : Int} {p q : Operand} :
    vbin Tryz.prog H .eql 63 p q (.agg [.c (.v (.string a)), .c (.v (.int .i64 x)), .c (.v (.int .i64 x2))]) (.agg [.c (.v (.string b)), .c (.v (.int .i64 y)), .c (.v (.int .i64 y2))]) = qa (vB (a == b && x == y && x2 == y2)) ∧
    vbin Tryz.prog H .neq 63 p q (.agg [.c (.v (.string a)), .c (.v (.int .i64 x)), .c (.v (.int .i64 x2))]) (.agg [.c (.v (.string b)), .c (.v (.int .i64 y)), .c (.v (.int .i64 y2))]) = qa (vB (!(a == b && x == y && x2 == y2))) :=
  bin_st3 (P := Tryz.prog) (t := 63) (pv_of Tryz.underlying63) (by kernel_rfl) (by kernel_rfl) (by kernel_rfl) (by kernel_rfl) (by kernel_rfl) (by kernel_rfl) (by kernel_rfl) (by kernel_rfl) (by kernel_rfl) (by kernel_rfl) (by kernel_rfl) us9 (by kernel_rfl) (by kernel_rfl)
theorem law_awake17 : TV.pu 7 [] = some (cB true) := by
  refine run7 (by simp) ?_
  have hd : Dim 2 64 2 8 := by unfold Dim; omega
  have hsz : aKey.size = 37 := rfl
  have hfit : fitB 100 = true := by decide
  have hfit2 : fitB 50 = true := by decide
  have hN : TV.pu 23 [cI .u64 1, cI .i64 64, cI .i64 2, cI .i64 2, cI .i64 8] = _ := rd_New (seed := 1) (hh := 2) (bits := 64) (rows := 2) (cols := 8) (by decide) (by decide) (by omega)
  rw [← encRad_nil] at hN
  have hS := fun K L => encRad_seeds (s := 1) (h := 2) (bits := 64) (rows := 2) (cols := 8) (K := K) (L := L) (by decide) (by decide)
  have hL := fun K L => encRad_lens (s := 1) (h := 2) (bits := 64) (rows := 2) (cols := 8) (K := K) (L := L) hd
  have hb : ∀ x ∈ [(aKey, (100 : Int)), (aKey, 50)], 0 ≤ x.2 ∧ x.2 ≤ 1073741824 := by intro x hx; simp only [List.mem_cons, List.not_mem_nil, or_false] at hx; rcases hx with rfl | rfl <;> decide
  have ok0 := encRad_ok (s := 1) (K := []) (L := []) hd (by simp) (by simp) (by simp)
  have ok1 := encRad_ok (s := 1) (K := [aKey]) (L := [(aKey, 100)]) hd (by simp) (by simp) (fun x hx => hb x (by simp only [List.mem_singleton] at hx; simp [hx]))
  have ok2 := encRad_ok (s := 1) (K := [aKey]) (L := [(aKey, 100), (aKey, 50)]) hd (by simp) (by simp) hb
  have ok3 := encRad_ok (s := 1) (K := []) (L := [(aKey, 100), (aKey, 50)]) hd (by simp) (by simp) hb
  have a1 := add_alone (s := 1) hd (L := []) (k := aKey) (b := 100) (by simp)
  have a2 := add_alone (s := 1) hd (L := [(aKey, 100)]) (k := aKey) (b := 50) (by simp)
  simp only [aK, List.nil_append, List.cons_append, if_true, List.cons_ne_self, reduceCtorEq, if_false] at a1 a2
  have A1 := rd_Add' (R := encRad 1 2 64 2 8 [] []) (key := aKey) (n := 100) (hS _ _) (hL _ _) ok0 hsz hfit
  rw [a1, ok1, if_pos rfl] at A1
  have A2 := rd_Add' (R := encRad 1 2 64 2 8 [aKey] [(aKey, 100)]) (key := aKey) (n := 50) (hS _ _) (hL _ _) ok1 hsz hfit2
  rw [a2, ok2, if_pos rfl] at A2
  have hp := peel_alone (s := 1) hd (L := [(aKey, 100), (aKey, 50)]) hsz ⟨100, by simp⟩
  have hc := counts_one (s := 1) hd (by decide) (K := [aKey]) (L := [(aKey, 100), (aKey, 50)]) hsz (by simp) (by simp) hb ok2
  have hw1 : wOf (fun _ => 1) [(aKey, (100 : Int)), (aKey, 50)] aKey = 2 := by simp [wOf]
  have hw2 : wOf (·.2) [(aKey, (100 : Int)), (aKey, 50)] aKey = 150 := by simp [wOf]
  rw [hw1, hw2] at hc
  have hE3 : emptyB (encRad 1 2 64 2 8 [] [(aKey, 100), (aKey, 50)]) = true := by rw [emptyB, ok3, enc_empty]; rfl
  have hSe := hS [aKey] [(aKey, 100), (aKey, 50)]
  have hLe := hL [aKey] [(aKey, 100), (aKey, 50)]
  obtain ⟨R0, h0⟩ : ∃ R, encRad 1 2 64 2 8 [] [] = R := ⟨_, rfl⟩
  obtain ⟨R1, h1⟩ : ∃ R, encRad 1 2 64 2 8 [aKey] [(aKey, 100)] = R := ⟨_, rfl⟩
  obtain ⟨R2, h2⟩ : ∃ R, encRad 1 2 64 2 8 [aKey] [(aKey, 100), (aKey, 50)] = R := ⟨_, rfl⟩
  rw [h0] at hN A1
  rw [h1] at A1 A2
  rw [h2] at A2 hp hc hSe hLe ok2
  have hRp := jn_Reports (l := [R2]) (by simp; exact ⟨hSe, hLe⟩) (by simp) (by simp [decOk, ok2])
  obtain ⟨R', out', j1, j2⟩ := jdec1 R2
  rw [hp] at j2
  have hr : repF [R2] = [([(aKey, 2, 150)], true)] := by
    rw [repF, j1]
    simp only [List.zipWith_cons_cons, List.zipWith_nil_right, rep1]
    rw [← (Prod.mk.inj j2).1, ← (Prod.mk.inj j2).2, hc, if_pos ⟨rfl, hE3⟩]
  rw [hr] at hRp
  simp only [cRads, cReps, cRep, cCts, cCt, cRad, cRws, cRw, List.map_cons, List.map_nil] at hN A1 A2 hRp
  simp only [aKey] at A1 A2 hRp
  simp -implicitDefEqProofs [Tryz.f7, hN, A1, A2, hRp, vmove, isNil, vstore, cellsOf?, Ent.wrO, wr, vbuildSlice_eq es22 el48, fzParts, setAll, rchParts, rch, rcha, frzAll, Ent.frz, ct_bin]
end Go.Proofs.YtmgnmnogiajlgaaGreatF
end

section
/- Joint: radars as the document's. -/
set_option maxRecDepth 8192
set_option maxHeartbeats 2000000
namespace Go.Proofs.YtmgnmnogiajlgaaGreatF
open Go Go.Proofs.Vm

def smallL (l : List Rad) : Bool := decide (l.length ≤ 5) && l.all smallB
def refA (l : List Rad) : CA := .tup [(false, [if smallL l = true then cRads l else .arr []]), (false, [.v (.bool (smallL l))])]
theorem mod_ne {α : Type} {f : α → α} {l : List α} {d u : Nat} (h : u ≠ d) : (l.modify d f)[u]? = l[u]? := by
  rw [List.getElem?_modify]
  cases l[u]? with
  | none => rfl
  | some a =>
    have : ¬ d = u := fun e => h e.symm
    simp [this]
theorem law_ref17 {l : List Rad} (h7 : ∀ R ∈ l, Lens7 R) (hl : ∀ R ∈ l, Lens R) (hn : l.length < 4611686018427387904) : TV.pu 6 [.one (cRads l)] = some (refA l) := by
  refine run6 (by simp) ?_
  by_cases h5 : l.length ≤ 5
  rotate_left
  · have h5' : 5 < (l.length : Int) := by omega
    have hs : smallL l = false := by simp [smallL, h5]
    simp -implicitDefEqProofs [Tryz.f6, cRads, vmove, isNil, h5', refA, hs]
  have h5' : ¬ 5 < (l.length : Int) := by omega
  have hfin : ∀ i (h : i < l.length), smallB l[i] = false → refA l = .tup [(false, [.arr []]), (false, [.v (.bool false)])] := fun i h hs => by
    have : smallL l = false := by
      unfold smallL
      have : l.all smallB = false := List.all_eq_false.2 ⟨_, List.getElem_mem h, by rw [hs]; decide⟩
      rw [this, Bool.and_false]
    simp [refA, this]
  obtain ⟨res, hres⟩ : ∃ res, refA l = res := ⟨_, rfl⟩
  rw [hres] at hfin ⊢
  simp -implicitDefEqProofs [Tryz.f6, cRads, vmove, isNil, h5']
  obtain ⟨I, hI⟩ : ∃ I : Nat → St → Prop, ∀ k s', I k s' ↔ (∃ e G i, s' = ⟨e, G⟩ ∧ e 4 = .one (.sl 1 0 i i) ∧ e 16 = .one (.c (cRads l)) ∧ e 17 = vI .i64 l.length ∧ e 18 = vI .i64 (i : Nat) ∧ (i + k = l.length) ∧ (G[1]? = some (.clo ((l.map cRad).take i) false)) ∧ (∀ j (h : j < l.length), j < i → smallB l[j] = true)) := ⟨_, fun _ _ => Iff.rfl⟩
  refine wpL_ind I ?_ l.length _ ((hI _ _).2 ⟨_, _, 0, (by first | rfl | (simp [cRads]; done) | (simp [cRads]; rfl) | (simp [cRads]; and_intros <;> rfl)), by simp, by simp [cRads], by simp, by simp, by omega, rfl, fun j h hj => by omega⟩)
  intro k stI hstI
  obtain ⟨e, G, i, rfl, e4, e16, e17, e18, hi, g1, hsm⟩ := (hI _ _).1 hstI
  by_cases c : i < l.length
  · have c' : (i : Int) < l.length := by omega
    obtain ⟨R, hR⟩ : ∃ R, l[i] = R := ⟨_, rfl⟩
    have hli : l[i]? = some R := by rw [List.getElem?_eq_getElem c, hR]
    have hRm : R ∈ l := hR ▸ List.getElem_mem c
    have hsmR := rr_Small (hl R hRm)
    obtain ⟨r1, r2⟩ := h7 R hRm
    have w_i : IntKind.i64.wrap ((i : Int) + 1) = ((i + 1 : Nat) : Int) := by rw [w64_id (by omega) (by omega)]; omega
    simp -implicitDefEqProofs [e16, e17, e18, c', hli, cRads, cRad, cRws, cRw, vmove, isNil, vstore, cellsOf?, Ent.wrO, wr, ownz]
    have g1l := (List.getElem?_eq_some_iff.1 g1).1
    obtain ⟨J, hJ⟩ : ∃ J : Nat → St → Prop, ∀ k2 s', J k2 s' ↔ (∃ e G q r j, s' = ⟨e, G⟩ ∧ e 4 = .one (.sl 1 0 i i) ∧ e 16 = .one (.c (cRads l)) ∧ e 17 = vI .i64 l.length ∧ e 18 = vI .i64 (i : Nat) ∧ e 7 = .one (.ptr ⟨q, 0, 0, 1⟩) ∧ e 28 = .one (.c (cRws R.rows)) ∧ e 29 = vI .i64 R.rows.length ∧ e 30 = vI .i64 (j : Nat) ∧ (j + k2 = R.rows.length) ∧ (G[1]? = some (.clo ((l.map cRad).take i) false)) ∧ (G[q]? = some (.opn [[.c (.v (.int .u64 R.s)), .c (.v (.int .u64 R.fs)), .c (.v (.int .i64 R.h)), .c (.arr (R.bits.map cB1)), .sl r 0 j j]] false)) ∧ (G[r]? = some (.clo ((R.rows.map fun x => [cRw x]).take j) false)) ∧ (1 ≠ q ∧ 1 ≠ r ∧ q ≠ r)) := ⟨_, fun _ _ => Iff.rfl⟩
    refine wpL_ind J ?_ R.rows.length _ ((hJ _ _).2 ⟨_, _, G.length + 5, G.length + 3 + 1, 0, (by first | rfl | (simp [e4, e16, e17, e18, cRads, cRws, cRw]; done) | (simp [e4, e16, e17, e18, cRads, cRws, cRw]; rfl) | (simp [e4, e16, e17, e18, cRads, cRws, cRw]; and_intros <;> rfl)), by simp [e4], by simp [e16, cRads], by simp [e17], by simp [e18], by simp, by simp [cRws, cRw], by simp, by simp, by omega, by rw [List.getElem?_append_left g1l]; exact g1, by simp, by rw [show G.length + 3 + 1 = G.length + 4 from rfl, ap_get]; simp, by omega⟩)
    clear e4 e16 e17 e18 g1 g1l
    intro k2 stJ hstJ
    obtain ⟨e, G, q, r, j, rfl, e4, e16, e17, e18, e7, e28, e29, e30, hj, k1, kq, kr, hne⟩ := (hJ _ _).1 hstJ
    by_cases cj : j < R.rows.length
    · have cj' : (j : Int) < R.rows.length := by omega
      obtain ⟨row, hrow⟩ : ∃ row, R.rows[j] = row := ⟨_, rfl⟩
      have hrj : R.rows[j]? = some row := by rw [List.getElem?_eq_getElem cj, hrow]
      have hr40 := r2 row (hrow ▸ List.getElem_mem cj)
      have w_j : IntKind.i64.wrap ((j : Int) + 1) = ((j + 1 : Nat) : Int) := by rw [w64_id (by omega) (by omega)]; omega
      simp -implicitDefEqProofs [e28, e29, e30, cj', hrj, cRws, cRw, vmove, isNil]
      have k1l := (List.getElem?_eq_some_iff.1 k1).1
      have kql := (List.getElem?_eq_some_iff.1 kq).1
      have krl := (List.getElem?_eq_some_iff.1 kr).1
      obtain ⟨Z, hZ⟩ : ∃ Z : Nat → St → Prop, ∀ k3 s', Z k3 s' ↔ (∃ e G d p, s' = ⟨e, G⟩ ∧ e 4 = .one (.sl 1 0 i i) ∧ e 16 = .one (.c (cRads l)) ∧ e 17 = vI .i64 l.length ∧ e 18 = vI .i64 (i : Nat) ∧ e 7 = .one (.ptr ⟨q, 0, 0, 1⟩) ∧ e 28 = .one (.c (cRws R.rows)) ∧ e 29 = vI .i64 R.rows.length ∧ e 30 = vI .i64 (j : Nat) ∧ e 10 = .one (.sl d 0 p p) ∧ e 34 = .one (.c (cRw row)) ∧ e 35 = vI .i64 row.length ∧ e 36 = vI .i64 (p : Nat) ∧ (p + k3 = row.length) ∧ (G[1]? = some (.clo ((l.map cRad).take i) false)) ∧ (G[q]? = some (.opn [[.c (.v (.int .u64 R.s)), .c (.v (.int .u64 R.fs)), .c (.v (.int .i64 R.h)), .c (.arr (R.bits.map cB1)), .sl r 0 j j]] false)) ∧ (G[r]? = some (.clo ((R.rows.map fun x => [cRw x]).take j) false)) ∧ (G[d]? = some (.clo ((row.map cCl).take p) false)) ∧ (d ≠ 1 ∧ d ≠ q ∧ d ≠ r)) := ⟨_, fun _ _ => Iff.rfl⟩
      refine wpL_ind Z ?_ row.length _ ((hZ _ _).2 ⟨_, _, G.length, 0, (by first | rfl | (simp [e4, e16, e17, e18, e7, e28, e29, e30, cRads, cRws, cRw]; done) | (simp [e4, e16, e17, e18, e7, e28, e29, e30, cRads, cRws, cRw]; rfl) | (simp [e4, e16, e17, e18, e7, e28, e29, e30, cRads, cRws, cRw]; and_intros <;> rfl)), by simp [e4], by simp [e16, cRads], by simp [e17], by simp [e18], by simp [e7], by simp [e28, cRws, cRw], by simp [e29], by simp [e30], by simp, by simp [cRw], by simp, by simp, by omega, by rw [List.getElem?_append_left k1l]; exact k1, by rw [List.getElem?_append_left kql]; exact kq, by rw [List.getElem?_append_left krl]; exact kr, by simp, by omega⟩)
      clear e4 e16 e17 e18 e7 e28 e29 e30 k1 kq kr k1l kql krl
      intro k3 stZ hstZ
      obtain ⟨e, G, d, p, rfl, e4, e16, e17, e18, e7, e28, e29, e30, e10, e34, e35, e36, hp, k1, kq, kr, kd, hnd⟩ := (hZ _ _).1 hstZ
      have k1l := (List.getElem?_eq_some_iff.1 k1).1
      have kql := (List.getElem?_eq_some_iff.1 kq).1
      have krl := (List.getElem?_eq_some_iff.1 kr).1
      have kdl := (List.getElem?_eq_some_iff.1 kd).1
      by_cases cp : p < row.length
      · have cp' : (p : Int) < row.length := by omega
        obtain ⟨cx, cf, cpk, cby, hc⟩ : ∃ cx cf cpk cby, row[p] = (cx, cf, cpk, cby) := ⟨_, _, _, _, rfl⟩
        have hrp : row[p]? = some (cx, cf, cpk, cby) := by rw [List.getElem?_eq_getElem cp, hc]
        have w_p : IntKind.i64.wrap ((p : Int) + 1) = ((p + 1 : Nat) : Int) := by rw [w64_id (by omega) (by omega)]; omega
        have ha := vappend_eq (P := Tryz.prog) (H := G ++ [.opn [(cCl (cx, cf, cpk, cby)).map .c] false, .clo [cCl (cx, cf, cpk, cby)] false]) (t := 55) (tx := 55) (id := d) (n := p) (l := (row.map cCl).take p) (xs := [cCl (cx, cf, cpk, cby)]) (x := .one (.sl (G.length + 1) 0 1 1)) es55 es55 el73
          (by rw [List.getElem?_append_left kdl]; exact kd) (by simp [elemsOf]) (by simp; omega) (by intro e he; obtain ⟨y, -, rfl⟩ := List.mem_map.1 (List.mem_of_mem_take he); rfl) (by simp [cCl]) (by simp only [List.length_singleton]; omega) (by simp only [List.length_singleton]; omega)
        have hN : (row.map cCl).take p ++ [cCl (cx, cf, cpk, cby)] = (row.map cCl).take (p + 1) := by
          rw [List.take_add_one, List.getElem?_map, hrp]; rfl
        rw [hN] at ha
        obtain ⟨G2, hG2⟩ : ∃ G2, (G ++ [Ent.opn [(cCl (cx, cf, cpk, cby)).map .c] false, .clo [cCl (cx, cf, cpk, cby)] false]).set d (.clo ((row.map cCl).take (p + 1)) false) = G2 := ⟨_, rfl⟩
        have g2 : ∀ (u : Nat) e, u ≠ d → G[u]? = some e → G2[u]? = some e := fun u e hu he => by
          rw [← hG2, set_get hu, List.getElem?_append_left (List.getElem?_eq_some_iff.1 he).1]; exact he
        have g2d : G2[d]? = some (.clo ((row.map cCl).take (p + 1)) false) := by
          rw [← hG2]; exact set_self (e0 := _) (by rw [List.getElem?_append_left kdl]; exact kd)
        rw [hG2] at ha
        simp only [cCl, List.length_singleton, List.map_cons, List.map_nil] at ha
        simp -implicitDefEqProofs [e10, e34, e35, e36, cp', hrp, cRw, cCl, vmove, isNil, vstore, cellsOf?, Ent.wrO, wr, vbuildSlice_eq es55 el73, fzParts, setAll, rchParts, rch, ha]
        exact ⟨(k3 - 1), by omega, (hZ _ _).2 ⟨_, G2, d, p + 1, (by first | rfl | (simp [e4, e16, e17, e18, e7, e28, e29, e30, e34, e35, w_p, cRads, cRws, cRw]; done) | (simp [e4, e16, e17, e18, e7, e28, e29, e30, e34, e35, w_p, cRads, cRws, cRw]; rfl) | (simp [e4, e16, e17, e18, e7, e28, e29, e30, e34, e35, w_p, cRads, cRws, cRw]; and_intros <;> rfl)), by simp [e4, w_p], by simp [e16, w_p, cRads], by simp [e17, w_p], by simp [e18, w_p], by simp [e7, w_p], by simp [e28, w_p, cRws, cRw], by simp [e29, w_p], by simp [e30, w_p], by simp [w_p], by simp [e34, w_p, cRw], by simp [e35, w_p], by simp [w_p], by omega, g2 1 _ (fun e => hnd.1 e.symm) k1, g2 q _ (fun e => hnd.2.1 e.symm) kq, g2 r _ (fun e => hnd.2.2 e.symm) kr, g2d, hnd⟩⟩
      · have cp' : ¬ (p : Int) < row.length := by omega
        have hp' : p = row.length := by omega
        subst hp'
        rw [List.take_of_length_le (by simp)] at kd
        have htr : List.take row.length (row.map cCl) = row.map cCl := List.take_of_length_le (by simp)
        obtain ⟨X, hX⟩ : ∃ X : Hp, List.modify (G ++ [Ent.clo [[.arr (row.map cCl)]] false]) d Ent.frz = X := ⟨_, rfl⟩
        have gx : ∀ (u : Nat) e, u ≠ d → G[u]? = some e → X[u]? = some e := fun u e hu he => by
          rw [← hX, mod_ne hu, List.getElem?_append_left (List.getElem?_eq_some_iff.1 he).1]; exact he
        have gxn : X[G.length]? = some (.clo [[.arr (row.map cCl)]] false) := by
          rw [← hX, mod_ne (by omega)]; simp
        have ha2 := vappend_eq (P := Tryz.prog) (H := X) (t := 41) (tx := 41) (id := r) (n := j) (l := (R.rows.map fun x => [cRw x]).take j) (xs := [[.arr (row.map cCl)]]) (x := .one (.sl G.length 0 1 1)) es41 es41 el55
          (gx r _ (fun e => hnd.2.2 e.symm) kr) (by simp [elemsOf, gxn]) (by simp; omega) (by intro e he; obtain ⟨y, -, rfl⟩ := List.mem_map.1 (List.mem_of_mem_take he); rfl) (by simp) (by simp only [List.length_singleton]; omega) (by simp only [List.length_singleton]; omega)
        have hN2 : (R.rows.map fun x => [cRw x]).take j ++ [[.arr (row.map cCl)]] = (R.rows.map fun x => [cRw x]).take (j + 1) := by
          rw [List.take_add_one, List.getElem?_map, hrj]; rfl
        rw [hN2] at ha2
        obtain ⟨G2, hG2⟩ : ∃ G2, X.set r (.clo ((R.rows.map fun x => [cRw x]).take (j + 1)) false) = G2 := ⟨_, rfl⟩
        rw [hG2] at ha2
        have g2 : ∀ (u : Nat) e, u ≠ r → X[u]? = some e → G2[u]? = some e := fun u e hu he => by rw [← hG2, set_get hu]; exact he
        have g2r : G2[r]? = some (.clo ((R.rows.map fun x => [cRw x]).take (j + 1)) false) := by rw [← hG2]; exact set_self (gx r _ (fun e => hnd.2.2 e.symm) kr)
        have g2q := g2 q _ hne.2.2 (gx q _ (fun e => hnd.2.1 e.symm) kq)
        obtain ⟨G3, hG3⟩ : ∃ G3, G2.set q (.opn [[.c (.v (.int .u64 R.s)), .c (.v (.int .u64 R.fs)), .c (.v (.int .i64 R.h)), .c (.arr (R.bits.map cB1)), .sl r 0 (j + 1) (j + 1)]] false) = G3 := ⟨_, rfl⟩
        have hs2 : vstore Tryz.prog false G2 41 (.one (.ptr ⟨q, 0, 4, 1⟩)) (.one (.sl r 0 (j + 1) (j + 1))) = some G3 := by
          rw [← hG3]; simp [vstore, cellsOf?, g2q, Ent.wrO, wr]
        have g3 : ∀ (u : Nat) e, u ≠ q → G2[u]? = some e → G3[u]? = some e := fun u e hu he => by rw [← hG3, set_get hu]; exact he
        have g3q : G3[q]? = some (.opn [[.c (.v (.int .u64 R.s)), .c (.v (.int .u64 R.fs)), .c (.v (.int .i64 R.h)), .c (.arr (R.bits.map cB1)), .sl r 0 (j + 1) (j + 1)]] false) := by rw [← hG3]; exact set_self g2q
        simp only [List.length_singleton] at ha2
        simp -implicitDefEqProofs [e7, e30, e10, e35, e36, cp', kq, kd, htr, vmove, isNil, cellsOf?, vbuildSlice_eq es41 el55, fzParts, setAll, rchParts, rch, frzAll, hX, ha2, g2q, hs2]
        exact ⟨(k2 - 1), by omega, (hJ _ _).2 ⟨_, G3, q, r, j + 1, (by first | rfl | (simp [e4, e16, e17, e18, e7, e28, e29, w_j, cRads, cRws, cRw]; done) | (simp [e4, e16, e17, e18, e7, e28, e29, w_j, cRads, cRws, cRw]; rfl) | (simp [e4, e16, e17, e18, e7, e28, e29, w_j, cRads, cRws, cRw]; and_intros <;> rfl)), by simp [e4, w_j], by simp [e16, w_j, cRads], by simp [e17, w_j], by simp [e18, w_j], by simp [e7, w_j], by simp [e28, w_j, cRws, cRw], by simp [e29, w_j], by simp [w_j], by omega, g3 1 _ hne.1 (g2 1 _ hne.2.1 (gx 1 _ (fun e => hnd.1 e.symm) k1)), g3q, g3 r _ (fun e => hne.2.2 e.symm) g2r, hne⟩⟩
    · have cj' : ¬ (j : Int) < R.rows.length := by omega
      have hj' : j = R.rows.length := by omega
      subst hj'
      rw [List.take_of_length_le (by simp)] at kr
      have htw : List.take R.rows.length (R.rows.map fun x => [CV.arr (x.map cCl)]) = R.rows.map fun x => [CV.arr (x.map cCl)] := List.take_of_length_le (by simp)
      simp only [cRad, cRws, cRw] at hsmR kr
      cases hsm1 : smallB R with
      | false =>
        rw [hsm1] at hsmR
        rw [hfin i c (by rw [hR]; exact hsm1)]
        simp -implicitDefEqProofs [e7, e29, e30, cj', kq, kr, htw, hsmR, vmove, isNil]
      | true =>
        rw [hsm1] at hsmR
        have hsm2 : ∀ j (h : j < l.length), j < i + 1 → smallB l[j] = true := fun j h hj => by
          by_cases e : j = i
          · subst e; rw [hR]; exact hsm1
          · exact hsm j h (by omega)
        have k1l := (List.getElem?_eq_some_iff.1 k1).1
        have krl := (List.getElem?_eq_some_iff.1 kr).1
        obtain ⟨X, hX⟩ : ∃ X : Hp, List.modify (G ++ [Ent.clo [cRad R] false]) r Ent.frz = X := ⟨_, rfl⟩
        have gx1 : X[1]? = some (.clo ((l.map cRad).take i) false) := by
          rw [← hX, mod_ne hne.2.1, List.getElem?_append_left k1l]; exact k1
        have gxn : X[G.length]? = some (.clo [cRad R] false) := by
          rw [← hX, mod_ne (by omega)]; simp
        have ha3 := vappend_eq (P := Tryz.prog) (H := X) (t := 23) (tx := 23) (id := 1) (n := i) (l := (l.map cRad).take i) (xs := [cRad R]) (x := .one (.sl G.length 0 1 1)) es23 es23 el43
          gx1 (by simp [elemsOf, gxn]) (by simp; omega) (by intro e he; obtain ⟨y, -, rfl⟩ := List.mem_map.1 (List.mem_of_mem_take he); rfl) (by simp [cRad]) (by simp only [List.length_singleton]; omega) (by simp only [List.length_singleton]; omega)
        have hN3 : (l.map cRad).take i ++ [cRad R] = (l.map cRad).take (i + 1) := by
          rw [List.take_add_one, List.getElem?_map, hli]; rfl
        rw [hN3] at ha3
        obtain ⟨G2, hG2⟩ : ∃ G2, X.set 1 (.clo ((l.map cRad).take (i + 1)) false) = G2 := ⟨_, rfl⟩
        have g21 : G2[1]? = some (.clo ((l.map cRad).take (i + 1)) false) := by rw [← hG2]; exact set_self gx1
        rw [hG2] at ha3
        simp only [List.length_singleton] at ha3
        simp only [cRad, cRws, cRw] at hX
        simp -implicitDefEqProofs [e4, e18, e7, e29, e30, cj', kq, kr, htw, hsmR, vmove, isNil, cellsOf?, vbuildSlice_eq es23 el43, fzParts, setAll, rchParts, rch, frzAll, hX, ha3]
        exact ⟨(k - 1), by omega, (hI _ _).2 ⟨_, G2, i + 1, (by first | rfl | (simp [e4, e16, e17, w_i, cRads]; done) | (simp [e4, e16, e17, w_i, cRads]; rfl) | (simp [e4, e16, e17, w_i, cRads]; and_intros <;> rfl)), by simp [w_i], by simp [e16, w_i, cRads], by simp [e17, w_i], by simp [w_i], by omega, g21, hsm2⟩⟩
  · have c' : ¬ (i : Int) < l.length := by omega
    have hi' : i = l.length := by omega
    subst hi'
    have hsa : smallL l = true := by
      unfold smallL
      rw [decide_eq_true h5, Bool.true_and, List.all_eq_true]
      intro x hx
      obtain ⟨j, hj, rfl⟩ := List.getElem_of_mem hx
      exact hsm j hj hj
    rw [List.take_of_length_le (by simp)] at g1
    have htl : List.take l.length (l.map cRad) = l.map cRad := List.take_of_length_le (by simp)
    simp -implicitDefEqProofs [e4, e17, e18, c', g1, htl, vmove, isNil, ← hres, refA, hsa, cRads]
end Go.Proofs.YtmgnmnogiajlgaaGreatF
end

section
/- How data of these laws open as closed values. -/
namespace Go.Proofs.YtmgnmnogiajlgaaGreatF
open Go Go.Proofs.Vm

theorem isI_one {k : IntKind} {l : List CV} (h : isI k l) : ∃ n, l = [.v (.int k n)] ∧ k.min ≤ n ∧ n ≤ k.max := by
  obtain ⟨n, hx, hw⟩ := h
  simp only [Lit.wf, Bool.and_eq_true, decide_eq_true_eq] at hw
  exact ⟨n, hx, hw⟩
theorem u64_good {l : List CV} (h : isI .u64 l) : ∃ n, l = [.v (.int .u64 n)] ∧ 0 ≤ n ∧ n < 18446744073709551616 := by
  obtain ⟨n, rfl, h1, h2⟩ := isI_one h
  have e1 : IntKind.u64.min = 0 := rfl
  have e2 : IntKind.u64.max = 18446744073709551615 := rfl
  exact ⟨n, rfl, by omega, by omega⟩
theorem i64_good {l : List CV} (h : isI .i64 l) : ∃ n, l = [.v (.int .i64 n)] ∧ -9223372036854775808 ≤ n ∧ n < 9223372036854775808 := by
  obtain ⟨n, rfl, h1, h2⟩ := isI_one h
  have e1 : IntKind.i64.min = -9223372036854775808 := rfl
  have e2 : IntKind.i64.max = 9223372036854775807 := rfl
  exact ⟨n, rfl, by omega, by omega⟩
theorem bools_good {l : List CV} (h : good38 l) : ∃ b : List Bool, l = [.arr (b.map cB1)] ∧ b.length ≤ 140737488351232 := by
  obtain ⟨L, rfl, hg, hw⟩ := h
  obtain ⟨b, rfl, _⟩ := map_of (f := cB1) (g := fun _ => True) fun e he => by obtain ⟨x, hx⟩ := (hg e he).2; exact ⟨x, hx, trivial⟩
  rw [List.length_map] at hw
  exact ⟨b, rfl, by omega⟩
theorem cell_good {l : List CV} (h : good72 l) : ∃ c : RCl, l = cCl c := by
  obtain ⟨_, _, rfl, ⟨s, rfl, _⟩, _, _, rfl, h1, _, _, rfl, h2, h3⟩ := h
  obtain ⟨a, rfl, _⟩ := i64_good h1
  obtain ⟨b, rfl, _⟩ := i64_good h2
  obtain ⟨c, rfl, _⟩ := i64_good h3
  exact ⟨(s, a, b, c), rfl⟩
theorem row_good {l : List CV} (h : good70 l) : ∃ r : List RCl, l = [cRw r] ∧ r.length * 40 ≤ 140737488351232 := by
  obtain ⟨L, rfl, hg, hw⟩ := h
  obtain ⟨b, rfl, _⟩ := map_of (f := cCl) (g := fun _ => True) fun e he => by obtain ⟨x, hx⟩ := cell_good (hg e he).2; exact ⟨x, hx, trivial⟩
  rw [List.length_map] at hw
  exact ⟨b, rfl, hw⟩
theorem rad_good {l : List CV} (h : good48 l) : ∃ R : Rad, l = cRad R ∧ Seeds R ∧ Lens R ∧ Lens7 R := by
  obtain ⟨_, _, rfl, h1, _, _, rfl, ⟨_, _, rfl, h2, _, _, rfl, h3, h4⟩, L, rfl, hg, hw⟩ := h
  obtain ⟨s, rfl, s0, s1⟩ := u64_good h1
  obtain ⟨fs, rfl, s2, s3⟩ := u64_good h2
  obtain ⟨hh, rfl, _⟩ := i64_good h3
  obtain ⟨b, rfl, hb⟩ := bools_good h4
  obtain ⟨rows, rfl, hr⟩ := map_of (f := fun r : List RCl => [cRw r]) (g := fun r => r.length * 40 ≤ 140737488351232) fun e he => by
    obtain ⟨x, hx, h⟩ := row_good (hg e he).2
    exact ⟨x, hx, h⟩
  rw [List.length_map] at hw
  refine ⟨⟨s, fs, hh, b, rows⟩, rfl, ⟨s0, s1, s2, s3⟩, ⟨?_, fun x hx => ?_, ?_⟩, ?_, fun x hx => ?_⟩
  · show rows.length < _; omega
  · have := hr x hx; omega
  · show b.length < _; omega
  · show 24 * rows.length ≤ _; omega
  · have := hr x hx; omega
theorem cv_one {x y : CV} (h : [x] = [y]) : x = y := by cases h; rfl
end Go.Proofs.YtmgnmnogiajlgaaGreatF
end

section
/- Strings of these laws. -/
namespace Go.Proofs.YtmgnmnogiajlgaaGreatF
open Go Go.Proofs.Vm
theorem strs_good {l : List CV} (h : good35 l) : ∃ b : List ByteArray, l = [cSs b] ∧ b.length < 4611686018427387904 := by
  obtain ⟨L, rfl, hg, hw⟩ := h
  obtain ⟨b, rfl, _⟩ := map_of (f := cStr) (g := fun _ => True) fun e he => by obtain ⟨x, hx, _⟩ := (hg e he).2; exact ⟨x, hx, trivial⟩
  rw [List.length_map] at hw
  exact ⟨b, rfl, by omega⟩
end Go.Proofs.YtmgnmnogiajlgaaGreatF
end

section
/- The law: the counts of keys are told as the document says. -/
set_option maxRecDepth 8192
set_option maxHeartbeats 4000000
namespace Go.Proofs.YtmgnmnogiajlgaaGreatF
open Go Go.Proofs.Vm Go.Proofs.Vm.Fld

theorem wide_id {m : List (List Int)} {b : List Int} {n : Nat} (hm : ∀ r ∈ m, RedR r ∧ r.length = n) (hb : RedR b) : (wideR m b).map redR = wideR m b := by
  conv => rhs; rw [← List.map_id (wideR m b)]
  refine List.map_congr_left fun r hr => redR_id fun x hx => ?_
  obtain ⟨j, h1, h2, rfl⟩ := wide_mem hr
  rcases List.mem_append.1 hx with h | h
  · exact (hm _ (List.getElem_mem h1)).1 x h
  · rw [List.mem_singleton.1 h]; exact hb _ (List.getElem_mem h2)
theorem rhs_len {R : Rad} {n : Nat} (hn : ∀ x ∈ R.rows, x.length = n) (f : RCl → Int) : (rhs R f).length = R.rows.length * n := by
  unfold rhs
  rw [List.length_map, List.length_flatten]
  have : R.rows.map List.length = List.replicate R.rows.length n := List.eq_replicate_iff.2 ⟨by simp, fun x hx => by
    obtain ⟨y, hy, rfl⟩ := List.mem_map.1 hx
    exact hn y hy⟩
  rw [this, List.sum_replicate_nat]
theorem law_jcounts {R : Rad} {keys : List ByteArray} (hs : Seeds R) (hl : Lens R) (h7 : Lens7 R) (hk : keys.length < 4611686018427387904) : TV.pu 4 [.agg (cRad R), .one (cSs keys)] = some (cB true) := by
  refine run4 (by simp) ?_
  have hA := law_awake17
  have hrf := law_ref17 (l := [R]) (by simpa using h7) (by simpa using hl) (by simp)
  have hRt := rr_Right hs hl
  have hSh : TV.pu 13 [.one (cSs keys), cI .i64 40] = _ := rr_Short (l := keys) (most := 40) (by omega)
  have hCt := jn_Counts hs hl hk
  have hKr := r17_Right hk
  have hsl : smallL [R] = smallB R := by simp [smallL]
  unfold refA at hrf
  rw [hsl] at hrf
  cases hsm : smallB R with
  | false =>
    rw [hsm] at hrf
    simp only [cRads, cRad, cRws, cRw, List.map_cons, List.map_nil] at hrf
    simp -implicitDefEqProofs [Tryz.f4, cRad, cRws, cRw, hrf, hA, vmove, isNil, cellsOf?, vbuildSlice_eq es22 el48, fzParts, setAll, rchParts, rch, rcha, frzAll, Ent.frz]
  | true =>
  rw [hsm, if_pos rfl] at hrf
  cases hsh : shortB keys 40 with
  | false =>
    rw [hsh] at hSh
    simp only [cRads, cRad, cRws, cRw, cSs, countsA, cCts, List.map_cons, List.map_nil] at hrf hSh hCt
    simp -implicitDefEqProofs [Tryz.f4, cRad, cRws, cRw, cSs, hrf, hSh,  hA, vmove, isNil, cellsOf?, vbuildSlice_eq es22 el48, fzParts, setAll, rchParts, rch, rcha, frzAll, Ent.frz]
  | true =>
  rw [hsh] at hSh
  have hsh2 : keys.length ≤ 40 ∧ ∀ k ∈ keys, k.size ≤ 100 := by simpa [shortB] using hsh
  obtain ⟨hk40, hk100⟩ := hsh2
  obtain ⟨er, fl, hcf⟩ : ∃ er fl, countsF R keys = (er, fl) := ⟨_, _, rfl⟩
  rw [hcf] at hCt
  unfold countsF at hcf
  cases hok : rOk R with
  | false =>
    rw [if_pos hok] at hcf
    obtain ⟨rfl, rfl⟩ : 1 = er ∧ [] = fl := by simpa using hcf
    rw [hok] at hRt
    simp only [cRads, cRad, cRws, cRw, cSs, countsA, cCts, List.map_cons, List.map_nil] at hrf hSh hCt hRt
    simp -implicitDefEqProofs [Tryz.f4, cRad, cRws, cRw, cSs, hrf, hSh, hCt, hRt, hA, vmove, isNil, vstore, cellsOf?, Ent.wrO, wr, vbuildSlice_eq es22 el48, fzParts, setAll, rchParts, rch, rcha, frzAll, Ent.frz]
  | true =>
  rw [if_neg (by rw [hok]; decide)] at hcf
  rw [hok] at hRt
  cases hko : keysOk keys with
  | false =>
    rw [if_pos hko] at hcf
    obtain ⟨rfl, rfl⟩ : 1 = er ∧ [] = fl := by simpa using hcf
    rw [hko] at hKr
    simp only [cRads, cRad, cRws, cRw, cSs, countsA, cCts, List.map_cons, List.map_nil] at hrf hSh hCt hRt hKr
    simp -implicitDefEqProofs [Tryz.f4, cRad, cRws, cRw, cSs, hrf, hSh, hCt, hRt, hKr, hA, vmove, isNil, vstore, cellsOf?, Ent.wrO, wr, vbuildSlice_eq es22 el48, fzParts, setAll, rchParts, rch, rcha, frzAll, Ent.frz]
  | true =>
  rw [if_neg (by rw [hko]; decide)] at hcf
  rw [hko] at hKr
  obtain ⟨q1, q2, q3, q4, q5⟩ := rOk_facts hok
  obtain ⟨r0, t0, hrt⟩ : ∃ r0 t0, R.rows = r0 :: t0 := by cases h : R.rows with | nil => rw [h] at q3; simp at q3 | cons a b => exact ⟨a, b, rfl⟩
  have hd0 : R.rows.headD [] = r0 := by rw [hrt]; rfl
  have hr0 : R.rows[0]? = some r0 := by rw [hrt]; rfl
  have q0 := q5 r0 (by rw [hrt]; exact List.mem_cons_self)
  have hn : ∀ x ∈ R.rows, x.length = r0.length := fun x hx => by rw [(q5 x hx).2.2.1, hd0]
  rw [hd0] at hcf
  have hml : R.rows.length * r0.length ≤ 7 * 256 := Nat.mul_le_mul q4 q0.2.1
  have hAl : (eqAll R keys).length = R.rows.length * r0.length := eqTo_len hn _ (Nat.le_refl _)
  have hbl : ∀ f, (rhs R f).length = (eqAll R keys).length := fun f => by rw [hAl, rhs_len hn f]
  obtain ⟨pr, hpr⟩ : ∃ pr, R.rows.length * r0.length = pr := ⟨_, rfl⟩
  have hmul : (R.rows.length : Int) * (r0.length : Int) = (pr : Int) := by rw [← hpr]; simp
  have hw9 : IntKind.i64.wrap ((R.rows.length : Int) * (r0.length : Int)) = (pr : Int) := by rw [hmul, w64_id (by omega) (by omega)]
  rw [hpr] at hcf hml hAl
  by_cases hbig : 32 < pr
  · rw [if_pos (.inl hbig)] at hcf
    obtain ⟨rfl, rfl⟩ : 4 = er ∧ [] = fl := by simpa using hcf
    have hbig' : 32 < (pr : Int) := by omega
    simp only [cRads, cRad, cRws, cRw, cSs, countsA, cCts, List.map_cons, List.map_nil] at hrf hSh hCt hRt hKr
    simp -implicitDefEqProofs [Tryz.f4, cRad, cRws, cRw, cSs, hrf, hSh, hCt, hRt, hKr, hr0, hw9, hbig', hA, vmove, isNil, vstore, cellsOf?, Ent.wrO, wr, vbuildSlice_eq es22 el48, fzParts, setAll, rchParts, rch, rcha, frzAll, Ent.frz]
  by_cases hbk : 32 < keys.length
  · rw [if_pos (.inr hbk)] at hcf
    obtain ⟨rfl, rfl⟩ : 4 = er ∧ [] = fl := by simpa using hcf
    have hbig' : ¬ 32 < (pr : Int) := by omega
    have hbk' : 32 < (keys.length : Int) := by omega
    simp only [cRads, cRad, cRws, cRw, cSs, countsA, cCts, List.map_cons, List.map_nil] at hrf hSh hCt hRt hKr
    simp -implicitDefEqProofs [Tryz.f4, cRad, cRws, cRw, cSs, hrf, hSh, hCt, hRt, hKr, hr0, hw9, hbig', hbk', hA, vmove, isNil, vstore, cellsOf?, Ent.wrO, wr, vbuildSlice_eq es22 el48, fzParts, setAll, rchParts, rch, rcha, frzAll, Ent.frz]
  rw [if_neg (by omega)] at hcf
  have hbig' : ¬ 32 < (pr : Int) := by omega
  have hbk' : ¬ 32 < (keys.length : Int) := by omega
  have hEq := eq_red R keys
  have hRw := r17_Rows (keys := keys) hs hl hok (by omega) fun k hk => by have := hk100 k hk; omega
  have hE1 := r17_Error hEq (pk_red hok) (hbl _) (by omega) (by omega)
  have hE2 := r17_Error hEq (by_red hok) (hbl _) (by omega) (by omega)
  have hT1 := solR_told (m := eqAll R keys) (b := rhs R pkF) (n := keys.length) (fun r hr => (hEq r hr).2) (hbl _)
  have hT2 := solR_told (m := eqAll R keys) (b := rhs R byF) (n := keys.length) (fun r hr => (hEq r hr).2) (hbl _)
  obtain ⟨s1, x1, hs1⟩ : ∃ s x, solR (eqAll R keys) (rhs R pkF) keys.length = (s, x) := ⟨_, _, rfl⟩
  obtain ⟨s2, x2, hs2⟩ : ∃ s x, solR (eqAll R keys) (rhs R byF) keys.length = (s, x) := ⟨_, _, rfl⟩
  rw [hs1] at hE1 hT1 hcf
  rw [hs2] at hE2 hT2 hcf
  dsimp only at hE1 hE2 hcf
  rw [rowsA] at hRw
  by_cases hz1 : s1 = 0
  rotate_left
  · rw [if_pos hz1] at hcf
    obtain ⟨rfl, rfl⟩ : s1 = er ∧ [] = fl := by simpa using hcf
    simp only [cRads, cRad, cRws, cRw, cSs, countsA, cCts, cUm, cUr, List.map_cons, List.map_nil] at hrf hSh hCt hRt hKr hRw hE1
    simp -implicitDefEqProofs [Tryz.f4, cRad, cRws, cRw, cSs, hrf, hSh, hCt, hRt, hKr, hr0, hw9, hbig', hbk', hRw, hE1, hz1, hA, vmove, isNil, vstore, cellsOf?, Ent.wrO, wr, vbuildSlice_eq es22 el48, fzParts, setAll, rchParts, rch, rcha, frzAll, Ent.frz]
  subst hz1
  rw [if_neg (by simp)] at hcf
  by_cases hz2 : s2 = 0
  rotate_left
  · rw [if_pos hz2] at hcf
    obtain ⟨rfl, rfl⟩ : s2 = er ∧ [] = fl := by simpa using hcf
    simp only [cRads, cRad, cRws, cRw, cSs, countsA, cCts, cUm, cUr, List.map_cons, List.map_nil] at hrf hSh hCt hRt hKr hRw hE1 hE2
    simp -implicitDefEqProofs [Tryz.f4, cRad, cRws, cRw, cSs, hrf, hSh, hCt, hRt, hKr, hr0, hw9, hbig', hbk', hRw, hE1, hE2, hz2, hA, vmove, isNil, vstore, cellsOf?, Ent.wrO, wr, vbuildSlice_eq es22 el48, fzParts, setAll, rchParts, rch, rcha, frzAll, Ent.frz]
  subst hz2
  rw [if_neg (by simp)] at hcf
  by_cases hbA : bigA keys.length x1 x2 = true
  · rw [if_pos hbA] at hcf
    obtain ⟨rfl, rfl⟩ : 3 = er ∧ [] = fl := by simpa using hcf
    simp only [cRads, cRad, cRws, cRw, cSs, countsA, cCts, cUm, cUr, List.map_cons, List.map_nil] at hrf hSh hCt hRt hKr hRw hE1 hE2
    simp -implicitDefEqProofs [Tryz.f4, cRad, cRws, cRw, cSs, hrf, hSh, hCt, hRt, hKr, hr0, hw9, hbig', hbk', hRw, hE1, hE2, hA, vmove, isNil, vstore, cellsOf?, Ent.wrO, wr, vbuildSlice_eq es22 el48, fzParts, setAll, rchParts, rch, rcha, frzAll, Ent.frz]
  rw [if_neg hbA] at hcf
  obtain ⟨rfl, hfl⟩ : 0 = er ∧ ctsOf keys x1 x2 = fl := by simpa using hcf
  obtain ⟨hx1l, hx1b, hx1a, _⟩ := hT1.one rfl
  obtain ⟨hx2l, hx2b, hx2a, _⟩ := hT2.one rfl
  dsimp only at hx1l hx1b hx1a hx2l hx2b hx2a
  rw [wide_id hEq (pk_red hok)] at hx1a
  rw [wide_id hEq (by_red hok)] at hx2a
  have ht1 := times_sol (fun r hr => (hEq r hr).2) (hbl _) hx1l hx1a
  have ht2 := times_sol (fun r hr => (hEq r hr).2) (hbl _) hx2l hx2a
  have hcs := cts_small hx1l hx2l (fun x hx => (hx1b x hx).1) (fun x hx => (hx2b x hx).1) (by simpa using hbA)
  have hfl2 : fl.length = keys.length := by rw [← hfl]; simp [ctsOf]
  have hHo := r17_Holds (l := fl) hs hl hok (by omega) (fun c hc => by
    have : c.1 ∈ fl.map (·.1) := List.mem_map.2 ⟨c, hc, rfl⟩
    rw [← hfl, cts_keys] at this
    have := hk100 _ this
    omega) (by rw [← hfl]; exact hcs) (by rw [← hfl, cts_keys]; omega)
  have hHt : holdsF R fl = true := by
    unfold holdsF
    rw [← hfl, cts_keys, cts_a hx1l, cts_b hx2l, ht1, ht2]
    simp
  rw [hHt] at hHo
  simp only [cRads, cRad, cRws, cRw, cSs, countsA, cCts, cUm, cUr, List.map_cons, List.map_nil] at hrf hSh hCt hRt hKr hRw hE1 hE2 hHo
  have hlb : ((fl.length : Int) != (keys.length : Int)) = false := by simp [hfl2]
  simp -implicitDefEqProofs [Tryz.f4, cRad, cRws, cRw, cSs, hrf, hSh, hCt, hRt, hKr, hr0, hw9, hbig', hbk', hRw, hE1, hE2, hHo, hfl2, vmove, isNil, vstore, cellsOf?, Ent.wrO, wr, vbuildSlice_eq es22 el48, fzParts, setAll, rchParts, rch, rcha, frzAll, Ent.frz]
  have hkeys : fl.map (·.1) = keys := by rw [← hfl, cts_keys]
  have hkey : ∀ i, ∀ h1 : i < fl.length, ∀ h2 : i < keys.length, fl[i].1 = keys[i] := fun i h1 h2 => by
    have := congrArg (fun l => l[i]?) hkeys
    simp only [List.getElem?_map, List.getElem?_eq_getElem h1, List.getElem?_eq_getElem h2, Option.map_some, Option.some.injEq] at this
    exact this
  obtain ⟨I, hI⟩ : ∃ I : Nat → St → Prop, ∀ k s', I k s' ↔ (∃ e i L, s' = ⟨e, L⟩ ∧ e 1 = .one (.c (cSs keys)) ∧ e 7 = .one (.c (cCts fl)) ∧ e 137 = vI .i64 keys.length ∧ e 138 = vI .i64 (i : Nat) ∧ (i + k = keys.length)) := ⟨_, fun _ _ => Iff.rfl⟩
  refine wpL_ind I ?_ keys.length _ ((hI _ _).2 ⟨_, 0, _, (by first | rfl | (simp [cSs, cCts]; done) | (simp [cSs, cCts]; rfl) | (simp [cSs, cCts]; and_intros <;> rfl)), by simp [cSs], by simp [cCts], by simp, by simp, by omega⟩)
  intro k stI hstI
  obtain ⟨e, i, L, rfl, e1, e7, e137, e138, hki⟩ := (hI _ _).1 hstI
  by_cases c : i < keys.length
  · have w_i : IntKind.i64.wrap ((i : Int) + 1) = ((i + 1 : Nat) : Int) := by rw [w64_id (by omega) (by omega)]; omega
    have ci : i < fl.length := by omega
    have hk1 := hkey i ci c
    simp -implicitDefEqProofs [e1, e7, e137, e138, c, ci, w_i, cSs, cCts, cCt, cStr, sbin_neq, hk1]
    exact ⟨k - 1, by omega, (hI _ _).2 ⟨_, i + 1, _, (by first | rfl | (simp [cSs, cCts]; done) | (simp [cSs, cCts]; rfl) | (simp [cSs, cCts]; and_intros <;> rfl)), by simp [e1, cSs], by simp [e7, cCts], by simp [e137], by simp, by omega⟩⟩
  · simp -implicitDefEqProofs [e137, e138, c, hA]
end Go.Proofs.YtmgnmnogiajlgaaGreatF
end

section
/- The law of all data: the counts of any keys of any radar. -/
namespace Go.Proofs.YtmgnmnogiajlgaaGreatF
open Go Go.Proofs.Vm

theorem lawJointCounts_all : ∀ l, goodsJointCounts l → TV.pu 4 l = some (cB true) := by
  rintro l ⟨a, r, rfl, ⟨x, rfl, _, h1⟩, b, r2, rfl, ⟨y, rfl, h2⟩, rfl⟩
  obtain ⟨R, hx, hs, hl, h7⟩ := rad_good h1
  obtain ⟨keys, hy, hk⟩ := strs_good h2
  subst hx
  obtain rfl := cv_one hy
  exact law_jcounts hs hl h7 hk
end Go.Proofs.YtmgnmnogiajlgaaGreatF
end
