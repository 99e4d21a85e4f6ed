/- Steps towards: For any sketch of small rows, right or wrong, and any key of at most a hundred bytes, what the program makes of the sketch by adding so many of the key, and what it tells of it, are what the document's own answer says; conditions: none beyond what the statement itself tells of its arguments. -/
import Derived.Test.YteaeigpeaneicaaCSignedTurns1
import Derived.Lib.OwnBridge
section
-- Printed by gprint.py: a program of this session over the kit's print. Not trusted: Lean checks it.
namespace Go.Proofs.Yteaeigpeaneicaa.G
open Go.RowKit Go.Proofs.YteaeigpeaneicaaW.PrintWords Go.Proofs.YteaeigpeaneicaaW.PrintLast Go.Proofs.YteaeigpeaneicaaW.PrintMore
attribute [local go_sem] max2_int min2_int max_two min_two max_three min_three max_four min_four   -- for this text's walks alone
set_option linter.unusedVariables false
set_option linter.unusedSimpArgs false

/-! ### slices_Sort_int_int: function 31 -/
-- GIVEN SortInt.lean
def slices_Sort_int_int.f (l0 : List Int) : Option (List Int) := if l0.length < 4611686018427387904 then some (l0.mergeSort fun x y => decide (x ≤ y)) else none
set_option maxHeartbeats 1000000 in
theorem slices_Sort_int_int.calls (P0_ : Nat → Prop) (u9000_ : Value) (l0 : List Int) (r : List Int) (w0 w : World) (hB : Below w0.heap.size w0 w) (ho0 : Kd.R (Kd.int .i64) 3 w w0.heap.size P0_ u9000_ l0) (h : slices_Sort_int_int.f l0 = some r) :
    Calls Try.prog 31 #[u9000_] w fun e w' => e = .returned (.tuple #[]) ∧ Kd.R (Kd.int .i64) 3 w' w0.heap.size (fun k_ => (P0_ k_ ∨ w.heap.size ≤ k_)) u9000_ r ∧ Below w0.heap.size w0 w' ∧ Kept w w' (fun k_ => P0_ k_) := by
  have hsz : l0.length < 4611686018427387904 := by
    by_cases c : l0.length < 4611686018427387904
    · exact c
    · simp [slices_Sort_int_int.f, c] at h
  obtain rfl : (l0.mergeSort fun x y => decide (x ≤ y)) = r := by simpa [slices_Sort_int_int.f, hsz] using h
  clear h
  have ho := Kd.own_of_R ho0
  by_cases hv : u9000_ = .slice none 0 0
  · subst hv
    have hl : l0 = [] := by
      rcases ho.2 with ⟨_, h⟩ | ⟨g, cap, cur, h, _⟩
      · exact List.length_eq_zero_iff.1 h
      · cases h
    subst hl
    refine (Try.slices_Sort_int_none none 0 w).mono fun e w' hh => ?_
    obtain ⟨rfl, hw⟩ := hh
    subst hw
    refine ⟨rfl, ?_, hB, Kept.refl _ _⟩
    rw [List.mergeSort_nil]
    exact Kd.R_mono ho0 (fun _ hk => .inl hk)
  · obtain ⟨g, cap, rfl, hbase, hlt, hn, hm, hzl, hH⟩ := Go.Lib.holds_of_ownsRow (show w.ownsRow w0.heap.size 3 1 u9000_ l0.length (l0.map (Value.int .i64)) from ho) hv
    refine (Try.slices_Sort_int g 0 cap l0 w hH hlt hsz).mono fun e w' hh => ?_
    obtain ⟨rfl, n, os, hw⟩ := hh
    subst hw
    have h1 := Go.Lib.ownsRow_putRow (q := n) (k := l0.length) (ys := l0.mergeSort fun x y => decide (x ≤ y)) (show w.ownsRow w0.heap.size 3 1 (.slice (some ⟨g, 0, none⟩) l0.length cap) l0.length (l0.map (Value.int .i64)) from ho) (List.length_mergeSort _) (Nat.le_refl _)
    have hP : P0_ g := ho0.1 g (by simp [Value.ownBlock])
    have hlen : (l0.mergeSort fun x y => decide (x ≤ y)).length = l0.length := List.length_mergeSort _
    rw [List.take_of_length_le (by rw [hlen]; exact Nat.le_refl _)] at h1
    generalize hys : (l0.mergeSort fun x y => decide (x ≤ y)) = ys at h1 hlen ⊢
    have hsz2 : (Go.Sort.putRow (Value.int .i64) (Go.Sort.ahead w n) g 0 ys.toArray).heap.size = w.heap.size := by simp [Go.Sort.putRow, Go.Sort.mapBlock, Go.Sort.ahead]
    have hgrow : Below w.heap.size (Go.Sort.putRow (Value.int .i64) (Go.Sort.ahead w n) g 0 ys.toArray) (Go.Sort.grow (Go.Sort.putRow (Value.int .i64) (Go.Sort.ahead w n) g 0 ys.toArray) os) :=
      ⟨rfl, rfl, rfl, by simp [Go.Sort.grow], fun k hk => by simp only [Go.Sort.grow]; rw [Array.getElem?_append_left (by rw [hsz2]; exact hk)]⟩
    have h2 : Kd.R (Kd.int .i64) 3 (Go.Sort.putRow (Value.int .i64) (Go.Sort.ahead w n) g 0 ys.toArray) w0.heap.size (fun k_ => (P0_ k_ ∨ w.heap.size ≤ k_)) (.slice (some ⟨g, 0, none⟩) l0.length cap) ys :=
      Kd.R_of_own (by rw [hlen]; exact h1) (fun k hk => .inl (by simp [Value.ownBlock] at hk; exact hk ▸ hP))
    refine ⟨rfl, Kd.R_below h2 (by rw [hsz2]; exact hgrow), (Go.Lib.below_putRow hB hbase).trans (hgrow.mono hB.size), ?_, fun i hi hn => ?_⟩
    · simp only [Go.Sort.grow, Array.size_append, hsz2]; omega
    · rw [hgrow.block i hi]
      have hne : g ≠ i := fun e => hn (e ▸ hP)
      simp [Go.Sort.putRow, Go.Sort.mapBlock, Go.Sort.ahead, Array.getElem?_modify, hne]

end Go.Proofs.Yteaeigpeaneicaa.G
end

section
-- Printed by gprint.py: a program of this session over the kit's print. Not trusted: Lean checks it.
namespace Go.Proofs.Yteaeigpeaneicaa.G
open Go.RowKit Go.Proofs.YteaeigpeaneicaaW.PrintWords Go.Proofs.YteaeigpeaneicaaW.PrintLast Go.Proofs.YteaeigpeaneicaaW.PrintMore
attribute [local go_sem] max2_int min2_int max_two min_two max_three min_three max_four min_four   -- for this text's walks alone
set_option linter.unusedVariables false
set_option linter.unusedSimpArgs false

/-! ### signed_Get: function 16 -/
def signed_Get.l0 : Nat → ByteArray → List Int → List (List Int) → Int → Int → Int → List (List Int) → Option (Int)
 | 0, _, _, _, _, _, _, _ => none
 | k + 1, x1, x5, x14, x15, x16, x162000, x162001 => if x16 < x15 then (if 0 ≤ x16 then (if x16 < (x14.length : Int) then ((signed_place.f k x162000 x162001 x1 x16).bind fun bt164 => (if 0 ≤ bt164.1 then (if bt164.1 < ((rd_L1 x14 x16).length : Int) then (if x5.length < 17592186044416 then (signed_Get.l0 k x1 (x5 ++ [wrap64 (bt164.2 * (rd (rd_L1 x14 x16) bt164.1))]) x14 x15 (wrap64 (x16 + 1)) x162000 x162001) else (none)) else (none)) else (none))) else (none)) else (none)) else ((slices_Sort_int_int.f x5).bind fun t170 => (if 0 ≤ (wrap64 ((x5.length : Int) / 2)) then (if (wrap64 ((x5.length : Int) / 2)) < (x5.length : Int) then (some (rd t170 (wrap64 ((x5.length : Int) / 2)))) else (none)) else (none)))
def signed_Get.f (k : Nat) (a0_0 : Int) (l0_1 : List (List Int)) (a1 : ByteArray) : Option (Int) := (signed_Right.f a0_0 l0_1).bind fun t162 => (if t162 = true then (signed_Get.l0 k a1 ([] : List Int) l0_1 (l0_1.length : Int) 0 a0_0 l0_1) else (some 0))
theorem signed_Get.mono_l : ∀ k, (∀ y0 y1 y2 y3 y4 y5 y6, LeO (signed_Get.l0 k y0 y1 y2 y3 y4 y5 y6) (signed_Get.l0 (k + 1) y0 y1 y2 y3 y4 y5 y6))
 | 0 => fun _ _ _ _ _ _ _ r h => by simp [signed_Get.l0] at h
 | k + 1 => by
  have ih0 := signed_Get.mono_l k
  ·
   intro y0 y1 y2 y3 y4 y5 y6
   unfold signed_Get.l0
   repeat' first
   | (with_reducible exact ih0 _ _ _ _ _ _ _)
   | (with_reducible exact signed_place.mono _ _ _ _ _)
   | (with_reducible exact LeO.refl _)
   | (with_reducible exact LeO.none _)
   | (with_reducible refine LeO.ite ?_ ?_)
   | (with_reducible refine LeO.bind ?_ (fun _ => ?_))
   | exact ih0 _ _ _ _ _ _ _
   | exact signed_place.mono _ _ _ _ _
   | exact LeO.none _
   | refine LeO.ite ?_ ?_
   | refine LeO.bind ?_ (fun _ => ?_)
theorem signed_Get.mono : ∀ a0 a1 a2 k, LeO (signed_Get.f k a0 a1 a2) (signed_Get.f (k + 1) a0 a1 a2) := by
 intro a0 a1 a2 k
 have ih0 := signed_Get.mono_l k
 unfold signed_Get.f
 repeat' first
   | (with_reducible exact ih0 _ _ _ _ _ _ _)
   | (with_reducible exact signed_place.mono _ _ _ _ _)
   | (with_reducible exact LeO.refl _)
   | (with_reducible exact LeO.none _)
   | (with_reducible refine LeO.ite ?_ ?_)
   | (with_reducible refine LeO.bind ?_ (fun _ => ?_))
   | exact ih0 _ _ _ _ _ _ _
   | exact signed_place.mono _ _ _ _ _
   | exact LeO.none _
   | refine LeO.ite ?_ ?_
   | refine LeO.bind ?_ (fun _ => ?_)
set_option maxHeartbeats 8000000 in
set_option maxRecDepth 100000 in
theorem signed_Get.calls (k : Nat) (a0_0 : Int) (A0_1 : Option Addr) (c0_1 : Nat) (l0_1 : List (List Int)) (a1 : ByteArray) (r : Int) (w : World) (hr0_1 : Kd.C (Kd.slice 3 (Kd.int .i64)) w A0_1 l0_1.length l0_1) (hc0_1 : l0_1.length ≤ c0_1) (h : signed_Get.f k a0_0 l0_1 a1 = some r) :
  Calls Try.prog 16 #[.agg #[.int .u64 a0_0, .slice A0_1 l0_1.length c0_1], .string a1] w fun e w' => e = .returned (.int .i64 r) ∧ Below w.heap.size w w' := by
 have hu25 := Try.underlying25
 have HR0_1 := Aside0.mk hr0_1
 have HC0_1 := Aside0.mk hc0_1
 clear hr0_1 hc0_1
 have HB := Aside0.mk (Below.refl w.heap.size w)
 have H : ((signed_Right.f a0_0 l0_1).bind fun t162 => (if t162 = true then (signed_Get.l0 k a1 ([] : List Int) l0_1 (l0_1.length : Int) 0 a0_0 l0_1) else (some 0))) = some r := h
 clear h
 replace H := Option.bind_eq_some_iff.mp H
 obtain ⟨t162, A30, H⟩ := H
 replace H : (if t162 = true then (signed_Get.l0 k a1 ([] : List Int) l0_1 (l0_1.length : Int) 0 a0_0 l0_1) else (some 0)) = some r := H
 have A3 := Aside0.mk A30
 clear A30
 by_cases c4 : t162 = true
 ·
  subst c4
  have H1 : (signed_Get.l0 k a1 ([] : List Int) l0_1 (l0_1.length : Int) 0 a0_0 l0_1) = some r := by rw [if_pos rfl] at H; exact H
  clear H
  have H := H1
  clear H1
  have H' := Aside0.mk H
  clear H
  go_enter Try.func16, Try.ntmps16
  go_wp2_with (first | ((with_reducible refine gate_dst (N := 2) rfl ?_); refine box_event ?hg (N := 2) ?hd (cs := #[.int .u64 a0_0, .slice A0_1 l0_1.length c0_1]) (t := 25) ?hr ?_; (case hd => rfl); (case hg => rfl); (case hr => first | (go_simp; done) | (go_simp; rfl)); intro gb161 hg w5 hbox hb; have BK161 := Aside0.mk (hbox); have GW161 := geN HB hg; have GE161 := geN HB hg; replace HB := stB HB hb; clear hb hbox hg; have hcz6_0 : w5.cell? ⟨gb161, 0, none⟩ = some (.int .u64 a0_0) := (blk_cell BK161.out 0).trans rfl; have hcz6_1 : w5.cell? ⟨gb161, 1, none⟩ = some (.slice A0_1 l0_1.length c0_1) := (blk_cell BK161.out 1).trans rfl; have hfz6_0 := blk_frozen BK161.out 0; have hfz6_1 := blk_frozen BK161.out 1) | ((with_reducible refine gate_callee (f := 17) rfl ?_); refine goesM_ (some 11) Try.func17 #[.agg #[.int .u64 a0_0, .slice A0_1 l0_1.length c0_1]] ?_; (with_reducible refine (signed_Right.calls a0_0 _ _ l0_1 true _ ?side1 ?side2 A3.out).mono ?_); (case side1 => repeat (first | exact (Kd.C_below HR0_1.out HB.out) | (with_reducible refine Kd.C_alloc ?_ _) | (with_reducible refine Kd.C_drewN ?_ _) | (with_reducible refine Kd.C_drew ?_))); (case side2 => exact HC0_1.out); rintro e w7 ⟨rfl, hb⟩; refine ⟨_, rfl, ?_⟩; replace BK161 := bB BK161 hb; replace HB := stB HB hb; (try clear hb); (try clear hb2); (try clear hk); (try clear hi); have hcz8_0 : w7.cell? ⟨gb161, 0, none⟩ = some (.int .u64 a0_0) := (blk_cell BK161.out 0).trans rfl; have hcz8_1 : w7.cell? ⟨gb161, 1, none⟩ = some (.slice A0_1 l0_1.length c0_1) := (blk_cell BK161.out 1).trans rfl; have hfz8_0 := blk_frozen BK161.out 0; have hfz8_1 := blk_frozen BK161.out 1))
  go_loopg [5, 16] k (fun kq v5 v16 w' => ∃ (x5_1 : List Int) (x16_1 : Int), v16 = .int .i64 x16_1 ∧ Aside0 (signed_Get.l0 kq a1 x5_1 l0_1 (l0_1.length : Int) x16_1 a0_0 l0_1 = some r) ∧ Aside0 (kq ≤ k) ∧ Aside0 (Kd.R (Kd.int .i64) 3 w' w.heap.size (fun _ => True) v5 x5_1) ∧ Aside0 (w'.heap[gb161]? = some (.cells #[.int .u64 a0_0, (.slice A0_1 l0_1.length c0_1)] 25 (0, 0))) ∧ Aside0 (Below w.heap.size w w'))
  case atStart => exact ⟨(([] : List Int)), (0), (by first | rfl | (simp; done) | (simp [*]; done)), H', ⟨Nat.le_refl _⟩, ⟨by first | exact Kd.R_nil _ _ _ _ _ | exact Kd.N_nil _ _ _ _ _ | exact Kd.V_nil _ _ _ _ _ | exact Kd.Q_nil _ _ _ _ _ | exact Kd.S_nil _ _ _ _ _⟩, ⟨pB BK161⟩, ⟨pH HB⟩⟩
  case round =>
   clear H'
   try clear c1
   try clear p2
   try clear c4
   try clear hcz6_0
   try clear hcz6_1
   try clear hcz8_0
   try clear hcz8_1
   try clear hfz6_0
   try clear hfz6_1
   try clear hfz8_0
   try clear hfz8_1
   obtain ⟨x5_1, x16_1, rfl, HA, HK1, HO_5, BK161, HB⟩ := hrel
   cases gk with
   | zero => exact absurd HA.out (by simp [signed_Get.l0])
   | succ k1 =>
    have H := HA.out
    clear HA
    simp only [signed_Get.l0] at H
    by_cases c9 : x16_1 < (l0_1.length : Int)
    ·
     rw [if_pos c9] at H
     have c9b0 : decide (x16_1 < (l0_1.length : Int)) = true := decide_eq_true c9
     clear c9
     by_cases c10 : 0 ≤ x16_1
     ·
      rw [if_pos c10] at H
      have c10b0 : decide (0 ≤ x16_1) = true := decide_eq_true c10
      clear c10
      by_cases c11 : x16_1 < (l0_1.length : Int)
      ·
       rw [if_pos c11] at H
       have c11b0 : decide (x16_1 < (l0_1.length : Int)) = true := decide_eq_true c11
       clear c11
       replace H := Option.bind_eq_some_iff.mp H
       obtain ⟨⟨t164, t165⟩, A120, H⟩ := H
       replace H : (if 0 ≤ t164 then (if t164 < ((rd_L1 l0_1 x16_1).length : Int) then (if x5_1.length < 17592186044416 then (signed_Get.l0 k1 a1 (x5_1 ++ [wrap64 (t165 * (rd (rd_L1 l0_1 x16_1) t164))]) l0_1 (l0_1.length : Int) (wrap64 (x16_1 + 1)) a0_0 l0_1) else (none)) else (none)) else (none)) = some r := H
       have A12 := Aside0.mk A120
       clear A120
       by_cases c13 : 0 ≤ t164
       ·
        rw [if_pos c13] at H
        have c13b0 : decide (0 ≤ t164) = true := decide_eq_true c13
        clear c13
        by_cases c14 : t164 < ((rd_L1 l0_1 x16_1).length : Int)
        ·
         rw [if_pos c14] at H
         have c14b0 : decide (t164 < ((rd_L1 l0_1 x16_1).length : Int)) = true := decide_eq_true c14
         clear c14
         by_cases c15 : x5_1.length < 17592186044416
         ·
          rw [if_pos c15] at H
          have LMc15 := Aside0.mk c15
          clear c15
          obtain ⟨y167, hy167⟩ : ∃ y_ : List Int, y_ = (x5_1 ++ [wrap64 (t165 * (rd (rd_L1 l0_1 x16_1) t164))]) := ⟨_, rfl⟩
          replace H : (signed_Get.l0 k1 a1 y167 l0_1 (l0_1.length : Int) (wrap64 (x16_1 + 1)) a0_0 l0_1) = some r := by first | (rw [hy167]; with_reducible exact H) | (have H2_ := (Option.bind_some _ _).symm.trans H; rw [hy167]; with_reducible exact H2_) | (have H2_ := (Option.bind_some _ _).symm.trans H; with_reducible exact H2_) | with_reducible exact H | (rw [hy167]; exact H) | exact H
          have Ny167 := Aside0.mk hy167
          clear hy167
          have H' := Aside0.mk H
          clear H
          have p163 : 0 ≤ (x16_1 : Int) := of_decide_eq_true (by first | (with_reducible assumption) | assumption)
          have q163 : x16_1 < (l0_1.length : Int) := of_decide_eq_true (by first | (with_reducible assumption) | assumption)
          obtain ⟨ad163, A163_0, c163_0, e163, hx163_0, hl163_0, hi163_0⟩ := at_L1 HR0_1.out x16_1 p163 q163
          cases e163
          replace hx163_0 := (HB.out.cell (World.block_lt_of_cell? w _ hx163_0)).trans hx163_0
          have HR163_0 := Aside0.mk hi163_0
          have HC163_0 := Aside0.mk hl163_0
          clear hi163_0 hl163_0
          replace p163 := eq_true p163
          replace q163 := eq_true q163
          have hcz16_0 : wr.cell? ⟨gb161, 0, none⟩ = some (.int .u64 a0_0) := (blk_cell BK161.out 0).trans rfl
          have hcz16_1 : wr.cell? ⟨gb161, 1, none⟩ = some (.slice (some ad163) l0_1.length c0_1) := (blk_cell BK161.out 1).trans rfl
          have hfz16_0 := blk_frozen BK161.out 0
          have hfz16_1 := blk_frozen BK161.out 1
          go_wp2_with (first | ((with_reducible refine gate_callee (f := 30) rfl ?_); refine goesM_ (some 25) Try.func30 #[.agg #[.int .u64 a0_0, .slice (some ad163) l0_1.length c0_1], .string a1, .int .i64 x16_1] ?_; (with_reducible refine (signed_place.calls k1 a0_0 _ _ l0_1 a1 x16_1 t164 t165 _ ?side1 ?side2 A12.out).mono ?_); (case side1 => repeat (first | exact (Kd.C_below HR0_1.out HB.out) | (with_reducible refine Kd.C_alloc ?_ _) | (with_reducible refine Kd.C_drewN ?_ _) | (with_reducible refine Kd.C_drew ?_))); (case side2 => exact HC0_1.out); rintro e w17 ⟨rfl, hb⟩; refine ⟨_, rfl, ?_⟩; replace HO_5 := Aside0.mk (Kd.R_below (pR HO_5) hb); replace BK161 := bB BK161 hb; replace HB := stB HB hb; (try clear hb); (try clear hb2); (try clear hk); (try clear hi); have p166 : 0 ≤ (t164 : Int) := of_decide_eq_true (by first | (with_reducible assumption) | assumption); have q166 : t164 < ((rd_L1 l0_1 x16_1).length : Int) := of_decide_eq_true (by first | (with_reducible assumption) | assumption); obtain ⟨ad166, e166, hx166_0⟩ := Kd.at_int HR163_0.out t164 p166 q166; cases e166; replace hx166_0 := (HB.out.cell (World.block_lt_of_cell? w _ hx166_0)).trans hx166_0; replace p166 := eq_true p166; replace q166 := eq_true q166) | ((with_reducible refine gate_builtin (b := .append) (xs := #[.tmp 28, .tmp 35]) rfl ?_); at_builtin; refine Kd.R_append (Kd.int .i64) (w0 := w) w.heap.size rfl (.tmp 28) (.tmp 35) 33 3 (.int .i64 0) 8 rfl Try.underlying33 info3 rfl (by decide) (by omega) u5 x5_1 (wrap64 (t165 * (rd (rd_L1 l0_1 x16_1) t164))) [.int .i64 (wrap64 (t165 * (rd (rd_L1 l0_1 x16_1) t164)))] (fun _ => True) (fun _ => False) rfl rfl ?aP (fun _ hk => hk.elim) ?aF ?aO ?aB ?aS ?aL ?_; (case aP => exact rfl); (case aB => exact (pH HB)); (case aF => exact (fun _ _ => trivial)); (case aO => exact (pR HO_5)); (case aS => exact (below_size (pH HB))); (case aL => have := LMc15.out; omega); intro v168 w18 ho hb hg hat; rw [← Ny167.out] at ho; have HO169 := Aside0.mk (ho); replace BK161 := Aside0.mk (blk_grown (g := gb161) (o := .cells #[.int .u64 a0_0, .slice (some ad163) l0_1.length c0_1] 25 (0, 0)) (pB BK161) hg (Kd.R_ne HO_5.out BK161.out (by decide))); replace HB := Aside0.mk (hb); clear HO_5; clear ho hb hg hat))
          go_roundg k1
          case measure => have := HK1.out; omega
          case rel => exact ⟨(y167), (wrap64 (x16_1 + 1)), (by first | rfl | (simp; done) | (simp [*]; done)), H', ⟨by have := HK1.out; omega⟩, ⟨pR HO169⟩, ⟨pB BK161⟩, ⟨pH HB⟩⟩
         ·
          rw [if_neg c15] at H
          exact absurd H (by simp)
        ·
         rw [if_neg c14] at H
         exact absurd H (by simp)
       ·
        rw [if_neg c13] at H
        exact absurd H (by simp)
      ·
       rw [if_neg c11] at H
       exact absurd H (by simp)
     ·
      rw [if_neg c10] at H
      exact absurd H (by simp)
    ·
     rw [if_neg c9] at H
     have c9b0 : decide (x16_1 < (l0_1.length : Int)) = false := decide_eq_false c9
     clear c9
     replace H := Option.bind_eq_some_iff.mp H
     obtain ⟨t170, A190, H⟩ := H
     replace H : (if 0 ≤ (wrap64 ((x5_1.length : Int) / 2)) then (if (wrap64 ((x5_1.length : Int) / 2)) < (x5_1.length : Int) then (some (rd t170 (wrap64 ((x5_1.length : Int) / 2)))) else (none)) else (none)) = some r := H
     have A19 := Aside0.mk A190
     clear A190
     obtain ⟨ji20, hji20⟩ : ∃ j_ : Int, (wrap64 ((x5_1.length : Int) / 2)) = j_ := ⟨_, rfl⟩
     replace H : (if 0 ≤ (ji20) then (if (ji20) < (x5_1.length : Int) then (some (rd t170 (ji20))) else (none)) else (none)) = some r := by first | (rw [hji20] at H; exact H) | (simp only [hji20] at H ⊢; exact H)
     (try rw [hji20] at A19)
     have hji20w : (IntKind.i64.wrap ((x5_1.length : Int) / 2)) = ji20 := (i64_w _).trans hji20
     by_cases c21 : 0 ≤ (ji20)
     ·
      rw [if_pos c21] at H
      have c21b0 : decide (0 ≤ (ji20)) = true := decide_eq_true c21
      clear c21
      by_cases c22 : (ji20) < (x5_1.length : Int)
      ·
       rw [if_pos c22] at H
       have c22b0 : decide ((ji20) < (x5_1.length : Int)) = true := decide_eq_true c22
       clear c22
       obtain rfl := Option.some.inj H
       obtain ⟨Ao23, co23, eo23⟩ := Kd.R_slice HO_5.out
       subst eo23
       go_wp2_with (first | ((with_reducible refine gate_callee (f := 31) rfl ?_); refine goesM_ (some 39) Try.func31 #[.slice Ao23 x5_1.length co23] ?_; (with_reducible refine (slices_Sort_int_int.calls (fun k_ => some k_ = (.slice Ao23 x5_1.length co23 : Value).ownBlock) (.slice Ao23 x5_1.length co23) x5_1 t170 w _ ?side1 ?side2 A19.out).mono ?_); (case side1 => repeat (first | (with_reducible first | exact HB.out | apply below_alloc | apply pw_below_drewN | apply below_drew1 | refine below_set ?_ GE161.out) | exact HB.out)); (case side2 => exact Kd.R_tight rfl HO_5.out); rintro e w24 ⟨rfl, hy0, hb, hkp⟩; refine ⟨_, rfl, ?_⟩; replace BK161 := Aside0.mk (blk_kept (pB BK161) hkp (fun hs_ => (fun e_ => (Kd.R_ne HO_5.out BK161.out (by decide)) e_) hs_)); replace HO_5 := Aside0.mk (Kd.R_reok rfl hy0 (fun k_ e_ => HO_5.out.1 k_ e_)); replace HB := Aside0.mk (hb); (try clear hb); (try clear hkp); (try clear hy0); have p171 : 0 ≤ ((ji20) : Int) := of_decide_eq_true (by first | (with_reducible assumption) | assumption); have q171 : (ji20) < (t170.length : Int) := (by have h_ : ((ji20) : Int) < ((x5_1.length : Int) : Int) := of_decide_eq_true (by first | (with_reducible assumption) | assumption); have e_ := (Kd.R_reads' HO_5.out).1; omega); have ql171 : (((ji20) : Int) < ((x5_1.length : Int) : Int)) = True := eq_true (of_decide_eq_true (by first | (with_reducible assumption) | assumption)); obtain ⟨ad171, e171, hx171_0⟩ := Kd.at_int (Kd.R_reads' HO_5.out).2.2 (ji20) p171 q171; cases e171; replace p171 := eq_true p171; replace q171 := eq_true q171))
       go_ret
       exact ⟨by first | rfl | (simp [errW_none, errW_some] <;> rfl) | (simp only [← hji20]; first | rfl | (simp [errW_none, errW_some] <;> rfl)) | (simp [*, errW_none, errW_some] <;> rfl), by repeat (first | (with_reducible first | exact HB.out | apply below_alloc | apply pw_below_drewN | apply below_drew1 | refine below_set ?_ GE161.out) | exact HB.out)⟩
      ·
       rw [if_neg c22] at H
       exact absurd H (by simp)
     ·
      rw [if_neg c21] at H
      exact absurd H (by simp)
 ·
  replace c4 := Bool.eq_false_iff.mpr c4
  subst c4
  have H1 : (some 0) = some r := by rw [if_neg (show ¬ (false = true) by decide)] at H; exact H
  clear H
  have H := H1
  clear H1
  obtain rfl := Option.some.inj H
  go_enter Try.func16, Try.ntmps16
  go_wp2_with (first | ((with_reducible refine gate_dst (N := 2) rfl ?_); refine box_event ?hg (N := 2) ?hd (cs := #[.int .u64 a0_0, .slice A0_1 l0_1.length c0_1]) (t := 25) ?hr ?_; (case hd => rfl); (case hg => rfl); (case hr => first | (go_simp; done) | (go_simp; rfl)); intro gb161 hg w25 hbox hb; have BK161 := Aside0.mk (hbox); have GW161 := geN HB hg; have GE161 := geN HB hg; replace HB := stB HB hb; clear hb hbox hg; have hcz26_0 : w25.cell? ⟨gb161, 0, none⟩ = some (.int .u64 a0_0) := (blk_cell BK161.out 0).trans rfl; have hcz26_1 : w25.cell? ⟨gb161, 1, none⟩ = some (.slice A0_1 l0_1.length c0_1) := (blk_cell BK161.out 1).trans rfl; have hfz26_0 := blk_frozen BK161.out 0; have hfz26_1 := blk_frozen BK161.out 1) | ((with_reducible refine gate_callee (f := 17) rfl ?_); refine goesM_ (some 11) Try.func17 #[.agg #[.int .u64 a0_0, .slice A0_1 l0_1.length c0_1]] ?_; (with_reducible refine (signed_Right.calls a0_0 _ _ l0_1 false _ ?side1 ?side2 A3.out).mono ?_); (case side1 => repeat (first | exact (Kd.C_below HR0_1.out HB.out) | (with_reducible refine Kd.C_alloc ?_ _) | (with_reducible refine Kd.C_drewN ?_ _) | (with_reducible refine Kd.C_drew ?_))); (case side2 => exact HC0_1.out); rintro e w27 ⟨rfl, hb⟩; refine ⟨_, rfl, ?_⟩; replace BK161 := bB BK161 hb; replace HB := stB HB hb; (try clear hb); (try clear hb2); (try clear hk); (try clear hi)))
  go_ret
  exact ⟨by first | rfl | (simp [errW_none, errW_some] <;> rfl) | (simp [*, errW_none, errW_some] <;> rfl), by repeat (first | (with_reducible first | exact HB.out | apply below_alloc | apply pw_below_drewN | apply below_drew1 | refine below_set ?_ GE161.out) | exact HB.out)⟩

end Go.Proofs.Yteaeigpeaneicaa.G
end

section
-- Printed by gprint.py: a program of this session over the kit's print. Not trusted: Lean checks it.
namespace Go.Proofs.Yteaeigpeaneicaa.G
open Go.RowKit Go.Proofs.YteaeigpeaneicaaW.PrintWords Go.Proofs.YteaeigpeaneicaaW.PrintLast Go.Proofs.YteaeigpeaneicaaW.PrintMore
attribute [local go_sem] max2_int min2_int max_two min_two max_three min_three max_four min_four   -- for this text's walks alone
set_option linter.unusedVariables false
set_option linter.unusedSimpArgs false

/-! ### signed_New: function 9 -/
mutual
def signed_New.j0 : Nat → Int → Int → Int → Bool → Option (Int × (List (List Int)) × Int)
 | 0, _, _, _, _ => none
 | k + 1, x0, x1, x2, x27 => if x27 = true then (some (0, ([] : List (List Int)), 1)) else (signed_New.l0 k x2 x1 0 x0 ([] : List (List Int)))
def signed_New.l0 : Nat → Int → Int → Int → Int → List (List Int) → Option (Int × (List (List Int)) × Int)
 | 0, _, _, _, _, _ => none
 | k + 1, x2, x31, x32, x103000, x103001 => if x32 < x31 then (if 0 ≤ x2 then (if (x2 : Int).toNat ≤ 35184372088832 then (if x103001.length < 5864062014805 then (signed_New.l0 k x2 x31 (wrap64 (x32 + 1)) x103000 (x103001 ++ [(List.replicate (x2 : Int).toNat 0)])) else (none)) else (none)) else (none)) else (some (x103000, x103001, 0))
end
def signed_New.f (k : Nat) (a0 : Int) (a1 : Int) (a2 : Int) : Option (Int × (List (List Int)) × Int) := if a1 < 1 then (signed_New.j0 k a0 a1 a2 true) else (if a1 > 7 then (signed_New.j0 k a0 a1 a2 true) else (if (Int.tmod a1 2) = 0 then (signed_New.j0 k a0 a1 a2 true) else (if a2 < 1 then (signed_New.j0 k a0 a1 a2 true) else (signed_New.j0 k a0 a1 a2 (decide (a2 > 256))))))
theorem signed_New.mono_l : ∀ k, (∀ y0 y1 y2 y3, LeO (signed_New.j0 k y0 y1 y2 y3) (signed_New.j0 (k + 1) y0 y1 y2 y3)) ∧ (∀ y0 y1 y2 y3 y4, LeO (signed_New.l0 k y0 y1 y2 y3 y4) (signed_New.l0 (k + 1) y0 y1 y2 y3 y4))
 | 0 => ⟨fun _ _ _ _ r h => by simp [signed_New.j0] at h, fun _ _ _ _ _ r h => by simp [signed_New.l0] at h⟩
 | k + 1 => by
  obtain ⟨ih0, ih1⟩ := signed_New.mono_l k
  refine ⟨?_, ?_⟩
  ·
   intro y0 y1 y2 y3
   unfold signed_New.j0
   repeat' first
   | (with_reducible exact ih0 _ _ _ _)
   | (with_reducible exact ih1 _ _ _ _ _)
   | (with_reducible exact LeO.refl _)
   | (with_reducible exact LeO.none _)
   | (with_reducible refine LeO.ite ?_ ?_)
   | (with_reducible refine LeO.bind ?_ (fun _ => ?_))
   | exact ih0 _ _ _ _
   | exact ih1 _ _ _ _ _
   | exact LeO.none _
   | refine LeO.ite ?_ ?_
   | refine LeO.bind ?_ (fun _ => ?_)
  ·
   intro y0 y1 y2 y3 y4
   unfold signed_New.l0
   repeat' first
   | (with_reducible exact ih0 _ _ _ _)
   | (with_reducible exact ih1 _ _ _ _ _)
   | (with_reducible exact LeO.refl _)
   | (with_reducible exact LeO.none _)
   | (with_reducible refine LeO.ite ?_ ?_)
   | (with_reducible refine LeO.bind ?_ (fun _ => ?_))
   | exact ih0 _ _ _ _
   | exact ih1 _ _ _ _ _
   | exact LeO.none _
   | refine LeO.ite ?_ ?_
   | refine LeO.bind ?_ (fun _ => ?_)
theorem signed_New.mono : ∀ a0 a1 a2 k, LeO (signed_New.f k a0 a1 a2) (signed_New.f (k + 1) a0 a1 a2) := by
 intro a0 a1 a2 k
 obtain ⟨ih0, ih1⟩ := signed_New.mono_l k
 unfold signed_New.f
 repeat' first
   | (with_reducible exact ih0 _ _ _ _)
   | (with_reducible exact ih1 _ _ _ _ _)
   | (with_reducible exact LeO.refl _)
   | (with_reducible exact LeO.none _)
   | (with_reducible refine LeO.ite ?_ ?_)
   | (with_reducible refine LeO.bind ?_ (fun _ => ?_))
   | exact ih0 _ _ _ _
   | exact ih1 _ _ _ _ _
   | exact LeO.none _
   | refine LeO.ite ?_ ?_
   | refine LeO.bind ?_ (fun _ => ?_)
def signed_New.T6 : Bool × List (List Nat × List Nat) := (true, [([], []), ([0], [0]), ([], []), ([2, 2], [2]), ([3], [3]), ([1, 4], [1, 4]), ([0, 1, 2, 3, 4, 5], []), ([6, 5, 5, 0, 1, 2, 3, 4, 5], [5, 6])])
def signed_New.B6 : List Nat := [0, 1, 0, 4, 12, 31, 63, 127]
theorem signed_New.tab6 : rtab .any (opsOf Try.f9 6) = signed_New.T6 := by kernel_rfl
theorem signed_New.bits6 : waitsOk signed_New.T6.2 signed_New.B6 = true := by kernel_rfl
set_option maxHeartbeats 8000000 in
set_option maxRecDepth 100000 in
theorem signed_New.calls (k : Nat) (a0 : Int) (a1 : Int) (a2 : Int) (r1 : Int) (r2 : List (List Int)) (r3 : Int) (w : World) (h : signed_New.f k a0 a1 a2 = some (r1, r2, r3)) :
  Calls Try.prog 9 #[.int .u64 a0, .int .i64 a1, .int .i64 a2] w fun e w' => ∃ v1_ : Value, e = .returned (.tuple #[.agg #[.int .u64 r1, v1_], .int .i64 r3]) ∧ Kd.S (Kd.slice 3 (Kd.int .i64)) 33 w' w.heap.size (fun _ => True) v1_ r2 ∧ Below w.heap.size w w' := by
 have hu25 := Try.underlying25
 have HB := Aside0.mk (Below.refl w.heap.size w)
 have H : (if a1 < 1 then (signed_New.j0 k a0 a1 a2 true) else (if a1 > 7 then (signed_New.j0 k a0 a1 a2 true) else (if (Int.tmod a1 2) = 0 then (signed_New.j0 k a0 a1 a2 true) else (if a2 < 1 then (signed_New.j0 k a0 a1 a2 true) else (signed_New.j0 k a0 a1 a2 (decide (a2 > 256))))))) = some (r1, r2, r3) := h
 clear h
 have HC4 := Aside0.mk H
 clear H
 go_enter Try.func9, Try.ntmps9
 go_upto_region 1 with (first | ((with_reducible refine gate_dst (N := 6) rfl ?_); refine box_event ?hg (N := 6) ?hd (cs := #[.int .u64 0, .slice none 0 0]) (t := 25) ?hr ?_; (case hd => rfl); (case hg => rfl); (case hr => first | (go_simp; done) | (go_simp; rfl)); intro gb101 hg w5 hbox hb; have BK101 := Aside0.mk (hbox); have GW101 := geN HB hg; have GE101 := geN HB hg; replace HB := stB HB hb; clear hb hbox hg))
 (try simp only [Act.put, List.setIfInBounds_toArray, List.set_cons_zero, List.set_cons_succ])
 go_cut [27] (fun v27 wc => ∃ (kq : Nat) (x27_3 : Bool), v27 = .bool x27_3 ∧ Aside0 (signed_New.j0 kq a0 a1 a2 x27_3 = some (r1, r2, r3)) ∧ Aside0 (kq ≤ k) ∧ Aside0 (wc.heap[gb101]? = some (.cells #[.int .u64 0, (.slice none 0 0)] 25 (0, 0))) ∧ Aside0 (Below w.heap.size w wc))
 case first =>
  have H := HC4.out
  clear HC4
  by_cases c6 : a1 < 1
  ·
   rw [if_pos c6] at H
   have c6b0 : decide (a1 < 1) = true := decide_eq_true c6
   clear c6
   (first | rw [c6b0] | (simp only [i64_w, i32_w]; rw [c6b0]) | skip)
   have H' := Aside0.mk H
   clear H
   go_wp2
   go_meet
   case rel => exact ⟨_, (true), (by first | rfl | (simp; done) | (simp [*]; done)), H', ⟨by first | omega | exact Nat.le_refl _⟩, ⟨pB BK101⟩, ⟨pH HB⟩⟩
  ·
   rw [if_neg c6] at H
   have c6b0 : decide (a1 < 1) = false := decide_eq_false c6
   clear c6
   (first | rw [c6b0] | (simp only [i64_w, i32_w]; rw [c6b0]) | skip)
   by_cases c7 : a1 > 7
   ·
    rw [if_pos c7] at H
    have c7b0 : decide (7 < a1) = true := decide_eq_true c7
    clear c7
    have H' := Aside0.mk H
    clear H
    go_wp2
    go_meet
    case rel => exact ⟨_, (true), (by first | rfl | (simp; done) | (simp [*]; done)), H', ⟨by first | omega | exact Nat.le_refl _⟩, ⟨pB BK101⟩, ⟨pH HB⟩⟩
   ·
    rw [if_neg c7] at H
    have c7b0 : decide (7 < a1) = false := decide_eq_false c7
    clear c7
    by_cases c8 : (Int.tmod a1 2) = 0
    ·
     rw [if_pos c8] at H
     have c8b0 : ((Int.tmod a1 2) == 0) = true := beq_iff_eq.mpr c8
     have c8b1 : ((Int.tmod a1 2) != 0) = false := bne_eq_false_iff_eq.mpr c8
     clear c8
     have H' := Aside0.mk H
     clear H
     go_wp2
     go_meet
     case rel => exact ⟨_, (true), (by first | rfl | (simp; done) | (simp [*]; done)), H', ⟨by first | omega | exact Nat.le_refl _⟩, ⟨pB BK101⟩, ⟨pH HB⟩⟩
    ·
     rw [if_neg c8] at H
     have c8b0 : ((Int.tmod a1 2) == 0) = false := beq_eq_false_iff_ne.mpr c8
     have c8b1 : ((Int.tmod a1 2) != 0) = true := bne_iff_ne.mpr c8
     by_cases c9 : a2 < 1
     ·
      rw [if_pos c9] at H
      have c9b0 : decide (a2 < 1) = true := decide_eq_true c9
      clear c9
      have H' := Aside0.mk H
      clear H
      go_wp2
      go_meet
      case rel => exact ⟨_, (true), (by first | rfl | (simp; done) | (simp [*]; done)), H', ⟨by first | omega | exact Nat.le_refl _⟩, ⟨pB BK101⟩, ⟨pH HB⟩⟩
     ·
      rw [if_neg c9] at H
      have c9b0 : decide (a2 < 1) = false := decide_eq_false c9
      clear c9
      have H' := Aside0.mk H
      clear H
      go_wp2
      go_meet
      case rel => exact ⟨_, (decide (a2 > 256)), (by first | rfl | (simp; done) | (simp [*]; done)), H', ⟨by first | omega | exact Nat.le_refl _⟩, ⟨pB BK101⟩, ⟨pH HB⟩⟩
 case rest =>
  clear HC4
  try clear p2
  try clear c6
  try clear c6b0
  try clear c7
  try clear c7b0
  try clear c8
  try clear c8b0
  try clear c8b1
  try clear c9
  try clear c9b0
  obtain ⟨kq, x27_3, rfl, HA, HJ3, BK101, HB⟩ := hcut
  cases kq with
  | zero => exact absurd HA.out (by simp [signed_New.j0])
  | succ kj3 =>
   have H := HA.out
   clear HA
   simp only [signed_New.j0] at H
   by_cases c10 : x27_3 = true
   ·
    subst c10
    have H1 : (some (0, ([] : List (List Int)), 1)) = some (r1, r2, r3) := by rw [if_pos rfl] at H; exact H
    clear H
    have H := H1
    clear H1
    simp only [Option.some.injEq, Prod.mk.injEq] at H
    obtain ⟨rfl, rfl, rfl⟩ := H
    have hcz11_0 : wc.cell? ⟨gb101, 0, none⟩ = some (.int .u64 0) := (blk_cell BK101.out 0).trans rfl
    have hcz11_1 : wc.cell? ⟨gb101, 1, none⟩ = some (.slice none 0 0) := (blk_cell BK101.out 1).trans rfl
    have hfz11_0 := blk_frozen BK101.out 0
    have hfz11_1 := blk_frozen BK101.out 1
    go_wp2
    refine bodyPost_ret (results_ct rfl _ _ gb101 25 #[.int .u64 0, .slice none 0 0] (0, 0) _ rfl (by (with_reducible repeat (first | refine blk_drewN ?_ _ | refine blk_drew ?_ | refine blk_alloc ?_ _)); refine blk_put (cs := #[.int .u64 0, .slice none 0 0]) ?_ 1 _ rfl; (with_reducible repeat (first | refine blk_drewN ?_ _ | refine blk_drew ?_ | refine blk_alloc ?_ _)); refine blk_put (cs := #[.int .u64 0, .slice none 0 0]) ?_ 0 _ rfl; (with_reducible repeat (first | refine blk_drewN ?_ _ | refine blk_drew ?_ | refine blk_alloc ?_ _)); exact BK101.out) Try.underlying25 rfl (by kernel_rfl)) rfl ?_
    exact ⟨_, by first | rfl | (simp [errW_none, errW_some] <;> rfl) | (simp [*, errW_none, errW_some] <;> rfl), by first | exact Kd.S_nil _ _ _ _ _ | exact Kd.N_nil _ _ _ _ _ | exact Kd.V_nil _ _ _ _ _ | exact Kd.Q_nil _ _ _ _ _ | exact Kd.R_nil _ _ _ _ _, by repeat (first | (with_reducible first | exact HB.out | apply below_alloc | apply pw_below_drewN | apply below_drew1 | refine below_set ?_ GE101.out) | exact HB.out)⟩
   ·
    replace c10 := Bool.eq_false_iff.mpr c10
    subst c10
    have H1 : (signed_New.l0 kj3 a2 a1 0 a0 ([] : List (List Int))) = some (r1, r2, r3) := by rw [if_neg (show ¬ (false = true) by decide)] at H; exact H
    clear H
    have H := H1
    clear H1
    have H' := Aside0.mk H
    clear H
    go_wp2_with (first | ((with_reducible refine gate_dst (N := 8) rfl ?_); refine box_event ?hg (N := 8) ?hd (cs := #[.int .u64 0, .slice none 0 0]) (t := 25) ?hr ?_; (case hd => rfl); (case hg => rfl); (case hr => first | (go_simp; done) | (go_simp; rfl)); intro gb102 hg w12 hbox hb; have BK102 := Aside0.mk (hbox); have GW102 := geN HB hg; have GE102 := geN HB hg; have NB101_102 := neL BK101 hg; have NB102_101 := neG BK101 hg; replace BK101 := bB BK101 hb; replace HB := stB HB hb; clear hb hbox hg; have hnb13 := NB102_101.out; have hnc13 := NB101_102.out; have hcz14_0 : w12.cell? ⟨gb102, 0, none⟩ = some (.int .u64 0) := (blk_cell BK102.out 0).trans rfl; have hcz14_1 : w12.cell? ⟨gb102, 1, none⟩ = some (.slice none 0 0) := (blk_cell BK102.out 1).trans rfl; have hfz14_0 := blk_frozen BK102.out 0; have hfz14_1 := blk_frozen BK102.out 1))
    go_loopg [32] kj3 (fun kq v32 w' => ∃ (x32_2 : Int) (x103001_2 : List (List Int)) (u103001 : Value), v32 = .int .i64 x32_2 ∧ Aside0 (signed_New.l0 kq a2 a1 x32_2 a0 x103001_2 = some (r1, r2, r3)) ∧ Aside0 (kq ≤ kj3) ∧ Aside0 (Kd.S (Kd.slice 3 (Kd.int .i64)) 33 w' w.heap.size (fun _ => True) u103001 x103001_2) ∧ Aside0 (w'.heap[gb101]? = some (.cells #[.int .u64 0, (.slice none 0 0)] 25 (0, 0))) ∧ Aside0 (w'.heap[gb102]? = some (.cells #[.int .u64 a0, u103001] 25 (0, 0))) ∧ Aside0 (Below w.heap.size w w'))
    case atStart => exact ⟨(0), (([] : List (List Int))), (.slice none 0 0), (by first | rfl | (simp; done) | (simp [*]; done)), H', ⟨Nat.le_refl _⟩, ⟨by first | exact Kd.S_nil _ _ _ _ _ | exact Kd.N_nil _ _ _ _ _ | exact Kd.V_nil _ _ _ _ _ | exact Kd.Q_nil _ _ _ _ _ | exact Kd.R_nil _ _ _ _ _⟩, ⟨by (with_reducible repeat (first | refine blk_drewN ?_ _ | refine blk_drew ?_ | refine blk_alloc ?_ _)); refine blk_far ?_ NB101_102.out _; (with_reducible repeat (first | refine blk_drewN ?_ _ | refine blk_drew ?_ | refine blk_alloc ?_ _)); refine blk_far ?_ NB101_102.out _; (with_reducible repeat (first | refine blk_drewN ?_ _ | refine blk_drew ?_ | refine blk_alloc ?_ _)); exact BK101.out⟩, ⟨by (with_reducible repeat (first | refine blk_drewN ?_ _ | refine blk_drew ?_ | refine blk_alloc ?_ _)); refine blk_put (cs := #[.int .u64 a0, .slice none 0 0]) ?_ 1 _ rfl; (with_reducible repeat (first | refine blk_drewN ?_ _ | refine blk_drew ?_ | refine blk_alloc ?_ _)); refine blk_put (cs := #[.int .u64 0, .slice none 0 0]) ?_ 0 _ rfl; (with_reducible repeat (first | refine blk_drewN ?_ _ | refine blk_drew ?_ | refine blk_alloc ?_ _)); exact BK102.out⟩, ⟨pH HB⟩⟩
    case round =>
     clear H'
     try clear c1
     try clear p2
     try clear c6
     try clear c6b0
     try clear c7
     try clear c7b0
     try clear c8
     try clear c8b0
     try clear c8b1
     try clear c9
     try clear c9b0
     try clear c10
     try clear c13
     try clear hcz11_0
     try clear hcz11_1
     try clear hcz14_0
     try clear hcz14_1
     try clear hfz11_0
     try clear hfz11_1
     try clear hfz14_0
     try clear hfz14_1
     try clear p2
     obtain ⟨x32_2, x103001_2, u103001, rfl, HA, HK2, HO_103001, BK101, BK102, HB⟩ := hrel
     cases gk with
     | zero => exact absurd HA.out (by simp [signed_New.l0])
     | succ k2 =>
      have H := HA.out
      clear HA
      simp only [signed_New.l0] at H
      by_cases c15 : x32_2 < a1
      ·
       rw [if_pos c15] at H
       have c15b0 : decide (x32_2 < a1) = true := decide_eq_true c15
       clear c15
       by_cases c16 : 0 ≤ a2
       ·
        rw [if_pos c16] at H
        have c16b0 := eq_true c16
        have c16b1 : decide (0 ≤ a2) = true := decide_eq_true c16
        clear c16
        by_cases c17 : (a2 : Int).toNat ≤ 35184372088832
        ·
         rw [if_pos c17] at H
         have c17b0 := eq_true c17
         have c17b1 : decide ((a2 : Int).toNat ≤ 35184372088832) = true := decide_eq_true c17
         clear c17
         obtain ⟨y103, hy103⟩ : ∃ y_ : List Int, y_ = (List.replicate (a2 : Int).toNat 0) := ⟨_, rfl⟩
         replace H : (if x103001_2.length < 5864062014805 then (signed_New.l0 k2 a2 a1 (wrap64 (x32_2 + 1)) a0 (x103001_2 ++ [y103])) else (none)) = some (r1, r2, r3) := by first | (rw [hy103]; with_reducible exact H) | (have H2_ := (Option.bind_some _ _).symm.trans H; rw [hy103]; with_reducible exact H2_) | (have H2_ := (Option.bind_some _ _).symm.trans H; with_reducible exact H2_) | with_reducible exact H | (rw [hy103]; exact H) | exact H
         have Ny103 := Aside0.mk hy103
         clear hy103
         by_cases c18 : x103001_2.length < 5864062014805
         ·
          rw [if_pos c18] at H
          have LMc18 := Aside0.mk c18
          clear c18
          obtain ⟨y106, hy106⟩ : ∃ y_ : List (List Int), y_ = (x103001_2 ++ [y103]) := ⟨_, rfl⟩
          replace H : (signed_New.l0 k2 a2 a1 (wrap64 (x32_2 + 1)) a0 y106) = some (r1, r2, r3) := by first | (rw [hy106]; with_reducible exact H) | (have H2_ := (Option.bind_some _ _).symm.trans H; rw [hy106]; with_reducible exact H2_) | (have H2_ := (Option.bind_some _ _).symm.trans H; with_reducible exact H2_) | with_reducible exact H | (rw [hy106]; exact H) | exact H
          have Ny106 := Aside0.mk hy106
          clear hy106
          have H' := Aside0.mk H
          clear H
          try go_wp2
          replace HO_103001 := Aside0.mk (Kd.S_drew HO_103001.out)
          replace BK101 := Aside0.mk (blk_drew BK101.out)
          replace BK102 := Aside0.mk (blk_drew BK102.out)
          replace HB := Aside0.mk (below_drew1 HB.out)
          refine start_ (n := 8) (S := fun w' => w'.cell? ⟨gb102, 0, none⟩ = some (.int .u64 a0) ∧ w'.cell? ⟨gb102, 1, none⟩ = some (u103001)) (ds := [7]) #[false, false, false, false, false, false, false, false] (by kernel_rfl) rfl rfl ⟨(blk_cell BK102.out 0).trans rfl, (blk_cell BK102.out 1).trans rfl⟩ (fun hHeld => ?_); refine with_tabW signed_New.tab6 signed_New.bits6 (fun HT_ HW_ => ?_)
          generalize wr.drew = w19 at HO_103001 BK101 BK102 HB hHeld ⊢
          refine pure_ (i := 0) (N := some 34) (v := ?_) (a' := ?_) (mkB 8 1) rfl rfl (any_of HT_.out (by kernel_rfl)) (fun _ _ _ h => h) (Or.inl ⟨by rfl, ?_⟩) ?_ ?_
          rotate_left
          ·
           intro w'
           go_simp
           with_reducible rfl
          rotate_left
          ·
           simp only [Act.put, List.setIfInBounds_toArray, List.set_cons_zero, List.set_cons_succ, i64_w, i32_w]
           rfl
          refine pure_ (i := 2) (N := some 36) (v := ?_) (a' := ?_) (mkB 8 5) rfl rfl (any_of HT_.out (by kernel_rfl)) (fun _ _ _ h => h) (Or.inl ⟨by rfl, ?_⟩) ?_ ?_
          rotate_left
          ·
           intro w'
           go_simp
           with_reducible rfl
          rotate_left
          ·
           simp only [Act.put, List.setIfInBounds_toArray, List.set_cons_zero, List.set_cons_succ, i64_w, i32_w]
           rfl
          refine take_ (i := 1) (N := some 35) (v := ?_) (a' := ?_) (mkB 8 7) rfl rfl (take_ofW HT_.out HW_.out (by kernel_rfl)) (fun _ _ _ h => h) (Or.inl ⟨by rfl, ?_⟩) hHeld ?_ ?_
          rotate_left
          ·
           rintro w' ⟨s0, s1⟩
           go_simp
           with_reducible rfl
          rotate_left
          ·
           simp only [Act.put, List.setIfInBounds_toArray, List.set_cons_zero, List.set_cons_succ, i64_w, i32_w]
           rfl
          refine one_ (i := 3) (N := some 37) (mkB 8 15) rfl rfl (one_of HT_.out (by kernel_rfl)) (by decide) (fun K hK => ?_)
          refine Kd.R_make_step (Kd.int .i64) _ 3 (by rfl) (N := 37) rfl 33 _ _ rfl a2 rfl rfl Try.underlying33 (.int .i64 0) 8 info3 rfl (by decide) (by omega) 0 (ok := fun _ => True) (okp := fun _ => True) rfl (fun _ hk => hk) trivial (of_decide_eq_true (by first | (with_reducible assumption) | assumption)) (Nat.le_trans (Nat.mul_le_mul_right _ (of_decide_eq_true (by first | (with_reducible assumption) | assumption) : a2.toNat ≤ 35184372088832)) (by omega)) (Below.refl _ _) (Nat.le_refl _) ?_
          intro v104 w20 ho21 hb hg_ hnew_
          clear hg_ hnew_
          (first | rw [← Ny103.out] at ho21 | (simp only [Int.reduceToNat] at ho21; rw [← Ny103.out] at ho21))
          have HO105 := Aside0.mk (Kd.R_lower ho21 (below_size (pH HB)))
          replace HO_103001 := Aside0.mk (Kd.S_elder' (pS HO_103001) (Kd.R_base ho21) hb)
          replace BK101 := bB BK101 hb
          replace BK102 := bB BK102 hb
          replace HB := stB HB hb
          clear hb ho21
          obtain ⟨Ao23, co23, eo23⟩ := Kd.R_slice HO105.out
          (first | subst eo23 | (injection eo23 with f1_ f2_ f3_; have f4_ := f1_.symm; have f5_ := f3_.symm; clear f1_ f2_ f3_; subst f4_; subst f5_))
          refine hK.out _ _ ⟨(blk_cell BK102.out 0).trans rfl, (blk_cell BK102.out 1).trans rfl⟩ (fun hHeld => ?_)
          clear hK K
          refine norm_ (a' := ?_) ?_ ?_
          rotate_left
          ·
           show Act.put _ (some 37) _ = _
           simp only [Act.put, List.setIfInBounds_toArray, List.set_cons_zero, List.set_cons_succ, i64_w, i32_w]
           rfl
          refine one_ (i := 4) (N := some 38) (mkB 8 31) rfl rfl (one_of HT_.out (by kernel_rfl)) (by decide) (fun K hK => ?_)
          refine value_ (w1 := ?_) (v := ?_) (by rfl) rfl ?_ ?_
          rotate_left 2
          ·
           go_simp
           constructor
           ·
            rfl
           ·
            rfl
          refine hK.out _ _ ⟨(blk_cell (blk_alloc BK102.out _) 0).trans rfl, (blk_cell (blk_alloc BK102.out _) 1).trans rfl⟩ (fun hHeld => ?_)
          clear hK K
          refine norm_ (a' := ?_) ?_ ?_
          rotate_left
          ·
           show Act.put _ (some 38) _ = _
           simp only [Act.put, List.setIfInBounds_toArray, List.set_cons_zero, List.set_cons_succ, i64_w, i32_w]
           rfl
          refine one_ (i := 5) (N := some 39) (mkB 8 63) rfl rfl (one_of HT_.out (by kernel_rfl)) (by decide) (fun K hK => ?_)
          refine Kd.S_append_step (Kd.slice 3 (Kd.int .i64)) (w0 := w) w.heap.size (by rfl) (.tmp 35) (.tmp 38) 23 33 (.slice none 0 0) 24 rfl Try.underlying23 info33 rfl (by decide) (by omega) u103001 x103001_2 y103 [.slice Ao23 y103.length co23] (fun _ => True) (fun k_ => some k_ = (.slice Ao23 y103.length co23 : Value).ownBlock) rfl rfl ?aP (fun k_ hk_ => ((Kd.R_mono (ok' := fun k_ => ((fun _ => True)) k_ ∧ some k_ ≠ (u103001 : Value).ownBlock) (Kd.R_apart' (HO105.out) (Kd.S_typed HO_103001.out) (by decide)) (fun k_ hk => ⟨trivial, hk.2⟩))).1 k_ hk_.symm) ?aF ?aO ?aB ?aS ?aL ?_
          (case aP => exact Kd.M_row (Kd.R_mono (Kd.R_tight rfl (Kd.R_mono (ok' := fun k_ => ((fun _ => True)) k_ ∧ some k_ ≠ (u103001 : Value).ownBlock) (Kd.R_apart' (HO105.out) (Kd.S_typed HO_103001.out) (by decide)) (fun k_ hk => ⟨trivial, hk.2⟩))) (fun _ h_ => h_)))
          (case aB => exact (pH HB))
          (case aF => exact (fun _ _ => trivial))
          (case aO => exact (by (with_reducible repeat (first | apply Kd.S_alloc | apply Kd.S_drewN | apply Kd.S_drew)); exact Kd.S_mono HO_103001.out (fun k_ hk => ⟨trivial, fun e_ => hk.2 e_⟩)))
          (case aS => exact (below_size (pH HB)))
          (case aL => have := LMc18.out; omega)
          intro v107 w22 ho hb hg hat
          rw [← Ny106.out] at ho
          have HO108 := Aside0.mk (ho)
          replace BK101 := Aside0.mk (blk_grown (g := gb101) (o := .cells #[.int .u64 0, .slice none 0 0] 25 (0, 0)) (pB BK101) hg (Kd.S_ne HO_103001.out BK101.out (by decide)))
          replace BK102 := Aside0.mk (blk_grown (g := gb102) (o := .cells #[.int .u64 a0, u103001] 25 (0, 0)) (pB BK102) hg (Kd.S_ne HO_103001.out BK102.out (by decide)))
          replace HB := Aside0.mk (hb)
          clear HO_103001 HO105
          clear ho hb hg hat
          obtain ⟨Ao24, co24, eo24⟩ := Kd.S_slice HO108.out
          (first | subst eo24 | (injection eo24 with f1_ f2_ f3_; have f4_ := f1_.symm; have f5_ := f3_.symm; clear f1_ f2_ f3_; subst f4_; subst f5_))
          refine hK.out _ _ ⟨(blk_cell BK102.out 0).trans rfl, (blk_cell BK102.out 1).trans rfl⟩ (fun hHeld => ?_)
          clear hK K
          refine norm_ (a' := ?_) ?_ ?_
          rotate_left
          ·
           show Act.put _ (some 39) _ = _
           simp only [Act.put, List.setIfInBounds_toArray, List.set_cons_zero, List.set_cons_succ, i64_w, i32_w]
           rfl
          refine pure_ (i := 6) (N := some 40) (v := ?_) (a' := ?_) (mkB 8 127) rfl rfl (any_of HT_.out (by kernel_rfl)) (fun _ _ _ h => h) (Or.inl ⟨by rfl, ?_⟩) ?_ ?_
          rotate_left
          ·
           intro w'
           go_simp
           with_reducible rfl
          rotate_left
          ·
           simp only [Act.put, List.setIfInBounds_toArray, List.set_cons_zero, List.set_cons_succ, i64_w, i32_w]
           rfl
          refine last_ (i := 7) (N := none) #[true, true, true, true, true, true, true, true] rfl rfl (one_of HT_.out (by kernel_rfl)) (by decide) (fun K hK => ?_)
          have hs25 : w22.cell? ⟨gb102, 1, none⟩ = some (u103001) := (blk_cell BK102.out 1).trans rfl
          have hfs25 := blk_frozen BK102.out 1
          have hns25_0 := NB101_102.out
          have hms25_0 := NB102_101.out
          refine skip_ (w1 := ?_) (by rfl) rfl ?_ ?_
          rotate_left
          ·
           go_simp
           rfl
          refine hK.out _ _ ?_
          clear hK K
          refine done_ (done_of HT_.out (by kernel_rfl)) ?_
          try go_wp2
          go_roundg k2
          case measure => have := HJ3.out; have := HK2.out; omega
          case rel => exact ⟨(wrap64 (x32_2 + 1)), (y106), (.slice Ao24 y106.length co24), (by first | rfl | (simp; done) | (simp [*]; done)), H', ⟨by have := HJ3.out; have := HK2.out; omega⟩, ⟨by (with_reducible repeat (first | apply Kd.S_alloc | apply Kd.S_drewN | apply Kd.S_drew)); exact Kd.S_mono (ok' := fun k_ => True) (Kd.S_far (p := ⟨gb102, 1, none⟩) (Kd.S_types HO108.out BK102.out (by decide)) (fun _ hk => hk.2) (.slice Ao24 y106.length co24)) (fun _ hk => trivial)⟩, ⟨by (with_reducible repeat (first | refine blk_drewN ?_ _ | refine blk_drew ?_ | refine blk_alloc ?_ _)); refine blk_far ?_ NB101_102.out _; (with_reducible repeat (first | refine blk_drewN ?_ _ | refine blk_drew ?_ | refine blk_alloc ?_ _)); exact BK101.out⟩, ⟨by (with_reducible repeat (first | refine blk_drewN ?_ _ | refine blk_drew ?_ | refine blk_alloc ?_ _)); refine blk_put (cs := #[.int .u64 a0, u103001]) ?_ 1 _ rfl; (with_reducible repeat (first | refine blk_drewN ?_ _ | refine blk_drew ?_ | refine blk_alloc ?_ _)); exact BK102.out⟩, ⟨pH HB⟩⟩
         ·
          rw [if_neg c18] at H
          exact absurd H (by simp)
        ·
         rw [if_neg c17] at H
         exact absurd H (by simp)
       ·
        rw [if_neg c16] at H
        exact absurd H (by simp)
      ·
       rw [if_neg c15] at H
       have c15b0 : decide (x32_2 < a1) = false := decide_eq_false c15
       clear c15
       simp only [Option.some.injEq, Prod.mk.injEq] at H
       obtain ⟨rfl, rfl, rfl⟩ := H
       have hnb26 := NB102_101.out
       have hnc26 := NB101_102.out
       have hcz27_0 : wr.cell? ⟨gb102, 0, none⟩ = some (.int .u64 a0) := (blk_cell BK102.out 0).trans rfl
       have hcz27_1 : wr.cell? ⟨gb102, 1, none⟩ = some (u103001) := (blk_cell BK102.out 1).trans rfl
       have hfz27_0 := blk_frozen BK102.out 0
       have hfz27_1 := blk_frozen BK102.out 1
       have hcz28_0 : wr.cell? ⟨gb101, 0, none⟩ = some (.int .u64 0) := (blk_cell BK101.out 0).trans rfl
       have hcz28_1 : wr.cell? ⟨gb101, 1, none⟩ = some (.slice none 0 0) := (blk_cell BK101.out 1).trans rfl
       have hfz28_0 := blk_frozen BK101.out 0
       have hfz28_1 := blk_frozen BK101.out 1
       obtain ⟨Ao29, co29, eo29⟩ := Kd.S_slice HO_103001.out
       subst eo29
       go_wp2
       refine bodyPost_ret (results_ct rfl _ _ gb101 25 #[.int .u64 a0, .slice Ao29 x103001_2.length co29] (0, 0) _ rfl (by (with_reducible repeat (first | refine blk_drewN ?_ _ | refine blk_drew ?_ | refine blk_alloc ?_ _)); refine blk_put (cs := #[.int .u64 a0, .slice none 0 0]) ?_ 1 _ rfl; (with_reducible repeat (first | refine blk_drewN ?_ _ | refine blk_drew ?_ | refine blk_alloc ?_ _)); refine blk_put (cs := #[.int .u64 0, .slice none 0 0]) ?_ 0 _ rfl; (with_reducible repeat (first | refine blk_drewN ?_ _ | refine blk_drew ?_ | refine blk_alloc ?_ _)); exact BK101.out) Try.underlying25 rfl (by kernel_rfl)) rfl ?_
       exact ⟨_, by first | rfl | (simp [errW_none, errW_some] <;> rfl) | (simp [*, errW_none, errW_some] <;> rfl), by (with_reducible repeat (first | apply Kd.S_alloc | apply Kd.S_drewN | apply Kd.S_drew)); exact Kd.S_mono (ok' := fun k_ => True) (Kd.S_far (p := ⟨gb101, 1, none⟩) (Kd.S_far (p := ⟨gb101, 0, none⟩) (Kd.S_types HO_103001.out BK101.out (by decide)) (fun _ hk => hk.2) (.int .u64 a0)) (fun _ hk => hk.2) (.slice Ao29 x103001_2.length co29)) (fun _ hk => trivial), by repeat (first | (with_reducible first | exact HB.out | apply below_alloc | apply pw_below_drewN | apply below_drew1 | refine below_set ?_ GE101.out | refine below_set ?_ GE102.out) | exact HB.out)⟩

end Go.Proofs.Yteaeigpeaneicaa.G
end

section
-- Printed by gprint.py: a program of this session over the kit's print. Not trusted: Lean checks it.
namespace Go.Proofs.Yteaeigpeaneicaa.G
open Go.RowKit Go.Proofs.YteaeigpeaneicaaW.PrintWords Go.Proofs.YteaeigpeaneicaaW.PrintLast Go.Proofs.YteaeigpeaneicaaW.PrintMore
attribute [local go_sem] max2_int min2_int max_two min_two max_three min_three max_four min_four   -- for this text's walks alone
set_option linter.unusedVariables false
set_option linter.unusedSimpArgs false

/-! ### signed_Cell: function 18 -/
def signed_Cell.f (k : Nat) (a0_0 : Int) (l0_1 : List (List Int)) (a1 : ByteArray) (a2 : Int) : Option (Int) := (signed_Right.f a0_0 l0_1).bind fun t251 => (if t251 = true then (if a2 < 0 then (some 0) else (if a2 ≥ (l0_1.length : Int) then (some 0) else ((signed_place.f k a0_0 l0_1 a1 a2).bind fun bt252 => (some bt252.1)))) else (some 0))
theorem signed_Cell.mono : ∀ a0 a1 a2 a3 k, LeO (signed_Cell.f k a0 a1 a2 a3) (signed_Cell.f (k + 1) a0 a1 a2 a3) := by
 intro a0 a1 a2 a3 k
 unfold signed_Cell.f
 repeat' first
   | (with_reducible exact signed_place.mono _ _ _ _ _)
   | (with_reducible exact LeO.refl _)
   | (with_reducible exact LeO.none _)
   | (with_reducible refine LeO.ite ?_ ?_)
   | (with_reducible refine LeO.bind ?_ (fun _ => ?_))
   | exact signed_place.mono _ _ _ _ _
   | exact LeO.none _
   | refine LeO.ite ?_ ?_
   | refine LeO.bind ?_ (fun _ => ?_)
set_option maxHeartbeats 8000000 in
set_option maxRecDepth 100000 in
theorem signed_Cell.calls (k : Nat) (a0_0 : Int) (A0_1 : Option Addr) (c0_1 : Nat) (l0_1 : List (List Int)) (a1 : ByteArray) (a2 : Int) (r : Int) (w : World) (hr0_1 : Kd.C (Kd.slice 3 (Kd.int .i64)) w A0_1 l0_1.length l0_1) (hc0_1 : l0_1.length ≤ c0_1) (h : signed_Cell.f k a0_0 l0_1 a1 a2 = some r) :
  Calls Try.prog 18 #[.agg #[.int .u64 a0_0, .slice A0_1 l0_1.length c0_1], .string a1, .int .i64 a2] w fun e w' => e = .returned (.int .i64 r) ∧ Below w.heap.size w w' := by
 have hu25 := Try.underlying25
 have HR0_1 := Aside0.mk hr0_1
 have HC0_1 := Aside0.mk hc0_1
 clear hr0_1 hc0_1
 have HB := Aside0.mk (Below.refl w.heap.size w)
 have H : ((signed_Right.f a0_0 l0_1).bind fun t251 => (if t251 = true then (if a2 < 0 then (some 0) else (if a2 ≥ (l0_1.length : Int) then (some 0) else ((signed_place.f k a0_0 l0_1 a1 a2).bind fun bt252 => (some bt252.1)))) else (some 0))) = some r := h
 clear h
 replace H := Option.bind_eq_some_iff.mp H
 obtain ⟨t251, A40, H⟩ := H
 replace H : (if t251 = true then (if a2 < 0 then (some 0) else (if a2 ≥ (l0_1.length : Int) then (some 0) else ((signed_place.f k a0_0 l0_1 a1 a2).bind fun bt252 => (some bt252.1)))) else (some 0)) = some r := H
 have A4 := Aside0.mk A40
 clear A40
 by_cases c5 : t251 = true
 ·
  subst c5
  have H1 : (if a2 < 0 then (some 0) else (if a2 ≥ (l0_1.length : Int) then (some 0) else ((signed_place.f k a0_0 l0_1 a1 a2).bind fun bt252 => (some bt252.1)))) = some r := by rw [if_pos rfl] at H; exact H
  clear H
  have H := H1
  clear H1
  by_cases c6 : a2 < 0
  ·
   rw [if_pos c6] at H
   have c6b0 : decide (a2 < 0) = true := decide_eq_true c6
   clear c6
   obtain rfl := Option.some.inj H
   go_enter Try.func18, Try.ntmps18
   go_wp2_with (first | ((with_reducible refine gate_dst (N := 3) rfl ?_); (try (refine gate_guard (by rfl) ?_; dsimp only)); refine box_event ?hg (N := 3) ?hd (cs := #[.int .u64 a0_0, .slice A0_1 l0_1.length c0_1]) (t := 25) ?hr ?_; (case hd => rfl); (case hg => rfl); (case hr => first | (go_simp; done) | (go_simp; rfl)); intro gb250 hg w7 hbox hb; have BK250 := Aside0.mk (hbox); have GW250 := geN HB hg; have GE250 := geN HB hg; replace HB := stB HB hb; clear hb hbox hg; have hcz8_0 : w7.cell? ⟨gb250, 0, none⟩ = some (.int .u64 a0_0) := (blk_cell BK250.out 0).trans rfl; have hcz8_1 : w7.cell? ⟨gb250, 1, none⟩ = some (.slice A0_1 l0_1.length c0_1) := (blk_cell BK250.out 1).trans rfl; have hfz8_0 := blk_frozen BK250.out 0; have hfz8_1 := blk_frozen BK250.out 1) | ((with_reducible refine gate_callee (f := 17) rfl ?_); refine goesM_ (some 10) Try.func17 #[.agg #[.int .u64 a0_0, .slice A0_1 l0_1.length c0_1]] ?_; (with_reducible refine (signed_Right.calls a0_0 _ _ l0_1 true _ ?side1 ?side2 A4.out).mono ?_); (case side1 => repeat (first | exact (Kd.C_below HR0_1.out HB.out) | (with_reducible refine Kd.C_alloc ?_ _) | (with_reducible refine Kd.C_drewN ?_ _) | (with_reducible refine Kd.C_drew ?_))); (case side2 => exact HC0_1.out); rintro e w9 ⟨rfl, hb⟩; refine ⟨_, rfl, ?_⟩; replace BK250 := bB BK250 hb; replace HB := stB HB hb; (try clear hb); (try clear hb2); (try clear hk); (try clear hi)))
   go_ret
   exact ⟨by first | rfl | (simp [errW_none, errW_some] <;> rfl) | (simp [*, errW_none, errW_some] <;> rfl), by repeat (first | (with_reducible first | exact HB.out | apply below_alloc | apply pw_below_drewN | apply below_drew1 | refine below_set ?_ GE250.out) | exact HB.out)⟩
  ·
   rw [if_neg c6] at H
   have c6b0 : decide (a2 < 0) = false := decide_eq_false c6
   clear c6
   by_cases c10 : a2 ≥ (l0_1.length : Int)
   ·
    rw [if_pos c10] at H
    have c10b0 : decide ((l0_1.length : Int) ≤ a2) = true := decide_eq_true c10
    clear c10
    obtain rfl := Option.some.inj H
    go_enter Try.func18, Try.ntmps18
    go_wp2_with (first | ((with_reducible refine gate_dst (N := 3) rfl ?_); (try (refine gate_guard (by rfl) ?_; dsimp only)); refine box_event ?hg (N := 3) ?hd (cs := #[.int .u64 a0_0, .slice A0_1 l0_1.length c0_1]) (t := 25) ?hr ?_; (case hd => rfl); (case hg => rfl); (case hr => first | (go_simp; done) | (go_simp; rfl)); intro gb250 hg w11 hbox hb; have BK250 := Aside0.mk (hbox); have GW250 := geN HB hg; have GE250 := geN HB hg; replace HB := stB HB hb; clear hb hbox hg; have hcz12_0 : w11.cell? ⟨gb250, 0, none⟩ = some (.int .u64 a0_0) := (blk_cell BK250.out 0).trans rfl; have hcz12_1 : w11.cell? ⟨gb250, 1, none⟩ = some (.slice A0_1 l0_1.length c0_1) := (blk_cell BK250.out 1).trans rfl; have hfz12_0 := blk_frozen BK250.out 0; have hfz12_1 := blk_frozen BK250.out 1) | ((with_reducible refine gate_callee (f := 17) rfl ?_); refine goesM_ (some 10) Try.func17 #[.agg #[.int .u64 a0_0, .slice A0_1 l0_1.length c0_1]] ?_; (with_reducible refine (signed_Right.calls a0_0 _ _ l0_1 true _ ?side1 ?side2 A4.out).mono ?_); (case side1 => repeat (first | exact (Kd.C_below HR0_1.out HB.out) | (with_reducible refine Kd.C_alloc ?_ _) | (with_reducible refine Kd.C_drewN ?_ _) | (with_reducible refine Kd.C_drew ?_))); (case side2 => exact HC0_1.out); rintro e w13 ⟨rfl, hb⟩; refine ⟨_, rfl, ?_⟩; replace BK250 := bB BK250 hb; replace HB := stB HB hb; (try clear hb); (try clear hb2); (try clear hk); (try clear hi); have hcz14_0 : w13.cell? ⟨gb250, 0, none⟩ = some (.int .u64 a0_0) := (blk_cell BK250.out 0).trans rfl; have hcz14_1 : w13.cell? ⟨gb250, 1, none⟩ = some (.slice A0_1 l0_1.length c0_1) := (blk_cell BK250.out 1).trans rfl; have hfz14_0 := blk_frozen BK250.out 0; have hfz14_1 := blk_frozen BK250.out 1))
    go_ret
    exact ⟨by first | rfl | (simp [errW_none, errW_some] <;> rfl) | (simp [*, errW_none, errW_some] <;> rfl), by repeat (first | (with_reducible first | exact HB.out | apply below_alloc | apply pw_below_drewN | apply below_drew1 | refine below_set ?_ GE250.out) | exact HB.out)⟩
   ·
    rw [if_neg c10] at H
    have c10b0 : decide ((l0_1.length : Int) ≤ a2) = false := decide_eq_false c10
    clear c10
    replace H := Option.bind_eq_some_iff.mp H
    obtain ⟨⟨t252, t253⟩, A150, H⟩ := H
    replace H : (some t252) = some r := H
    have A15 := Aside0.mk A150
    clear A150
    obtain rfl := Option.some.inj H
    go_enter Try.func18, Try.ntmps18
    go_wp2_with (first | ((with_reducible refine gate_dst (N := 3) rfl ?_); (try (refine gate_guard (by rfl) ?_; dsimp only)); refine box_event ?hg (N := 3) ?hd (cs := #[.int .u64 a0_0, .slice A0_1 l0_1.length c0_1]) (t := 25) ?hr ?_; (case hd => rfl); (case hg => rfl); (case hr => first | (go_simp; done) | (go_simp; rfl)); intro gb250 hg w16 hbox hb; have BK250 := Aside0.mk (hbox); have GW250 := geN HB hg; have GE250 := geN HB hg; replace HB := stB HB hb; clear hb hbox hg; have hcz17_0 : w16.cell? ⟨gb250, 0, none⟩ = some (.int .u64 a0_0) := (blk_cell BK250.out 0).trans rfl; have hcz17_1 : w16.cell? ⟨gb250, 1, none⟩ = some (.slice A0_1 l0_1.length c0_1) := (blk_cell BK250.out 1).trans rfl; have hfz17_0 := blk_frozen BK250.out 0; have hfz17_1 := blk_frozen BK250.out 1) | ((with_reducible refine gate_callee (f := 17) rfl ?_); refine goesM_ (some 10) Try.func17 #[.agg #[.int .u64 a0_0, .slice A0_1 l0_1.length c0_1]] ?_; (with_reducible refine (signed_Right.calls a0_0 _ _ l0_1 true _ ?side1 ?side2 A4.out).mono ?_); (case side1 => repeat (first | exact (Kd.C_below HR0_1.out HB.out) | (with_reducible refine Kd.C_alloc ?_ _) | (with_reducible refine Kd.C_drewN ?_ _) | (with_reducible refine Kd.C_drew ?_))); (case side2 => exact HC0_1.out); rintro e w18 ⟨rfl, hb⟩; refine ⟨_, rfl, ?_⟩; replace BK250 := bB BK250 hb; replace HB := stB HB hb; (try clear hb); (try clear hb2); (try clear hk); (try clear hi); have hcz19_0 : w18.cell? ⟨gb250, 0, none⟩ = some (.int .u64 a0_0) := (blk_cell BK250.out 0).trans rfl; have hcz19_1 : w18.cell? ⟨gb250, 1, none⟩ = some (.slice A0_1 l0_1.length c0_1) := (blk_cell BK250.out 1).trans rfl; have hfz19_0 := blk_frozen BK250.out 0; have hfz19_1 := blk_frozen BK250.out 1) | ((with_reducible refine gate_callee (f := 30) rfl ?_); refine goesM_ (some 27) Try.func30 #[.agg #[.int .u64 a0_0, .slice A0_1 l0_1.length c0_1], .string a1, .int .i64 a2] ?_; (with_reducible refine (signed_place.calls k a0_0 _ _ l0_1 a1 a2 t252 t253 _ ?side1 ?side2 A15.out).mono ?_); (case side1 => repeat (first | exact (Kd.C_below HR0_1.out HB.out) | (with_reducible refine Kd.C_alloc ?_ _) | (with_reducible refine Kd.C_drewN ?_ _) | (with_reducible refine Kd.C_drew ?_))); (case side2 => exact HC0_1.out); rintro e w20 ⟨rfl, hb⟩; refine ⟨_, rfl, ?_⟩; replace BK250 := bB BK250 hb; replace HB := stB HB hb; (try clear hb); (try clear hb2); (try clear hk); (try clear hi)))
    go_ret
    exact ⟨by first | rfl | (simp [errW_none, errW_some] <;> rfl) | (simp [*, errW_none, errW_some] <;> rfl), by repeat (first | (with_reducible first | exact HB.out | apply below_alloc | apply pw_below_drewN | apply below_drew1 | refine below_set ?_ GE250.out) | exact HB.out)⟩
 ·
  replace c5 := Bool.eq_false_iff.mpr c5
  subst c5
  have H1 : (some 0) = some r := by rw [if_neg (show ¬ (false = true) by decide)] at H; exact H
  clear H
  have H := H1
  clear H1
  obtain rfl := Option.some.inj H
  go_enter Try.func18, Try.ntmps18
  go_wp2_with (first | ((with_reducible refine gate_dst (N := 3) rfl ?_); (try (refine gate_guard (by rfl) ?_; dsimp only)); refine box_event ?hg (N := 3) ?hd (cs := #[.int .u64 a0_0, .slice A0_1 l0_1.length c0_1]) (t := 25) ?hr ?_; (case hd => rfl); (case hg => rfl); (case hr => first | (go_simp; done) | (go_simp; rfl)); intro gb250 hg w21 hbox hb; have BK250 := Aside0.mk (hbox); have GW250 := geN HB hg; have GE250 := geN HB hg; replace HB := stB HB hb; clear hb hbox hg; have hcz22_0 : w21.cell? ⟨gb250, 0, none⟩ = some (.int .u64 a0_0) := (blk_cell BK250.out 0).trans rfl; have hcz22_1 : w21.cell? ⟨gb250, 1, none⟩ = some (.slice A0_1 l0_1.length c0_1) := (blk_cell BK250.out 1).trans rfl; have hfz22_0 := blk_frozen BK250.out 0; have hfz22_1 := blk_frozen BK250.out 1) | ((with_reducible refine gate_callee (f := 17) rfl ?_); refine goesM_ (some 10) Try.func17 #[.agg #[.int .u64 a0_0, .slice A0_1 l0_1.length c0_1]] ?_; (with_reducible refine (signed_Right.calls a0_0 _ _ l0_1 false _ ?side1 ?side2 A4.out).mono ?_); (case side1 => repeat (first | exact (Kd.C_below HR0_1.out HB.out) | (with_reducible refine Kd.C_alloc ?_ _) | (with_reducible refine Kd.C_drewN ?_ _) | (with_reducible refine Kd.C_drew ?_))); (case side2 => exact HC0_1.out); rintro e w23 ⟨rfl, hb⟩; refine ⟨_, rfl, ?_⟩; replace BK250 := bB BK250 hb; replace HB := stB HB hb; (try clear hb); (try clear hb2); (try clear hk); (try clear hi)))
  go_ret
  exact ⟨by first | rfl | (simp [errW_none, errW_some] <;> rfl) | (simp [*, errW_none, errW_some] <;> rfl), by repeat (first | (with_reducible first | exact HB.out | apply below_alloc | apply pw_below_drewN | apply below_drew1 | refine below_set ?_ GE250.out) | exact HB.out)⟩

end Go.Proofs.Yteaeigpeaneicaa.G
end

section
-- Printed by gprint.py: a program of this session over the kit's print. Not trusted: Lean checks it.
namespace Go.Proofs.Yteaeigpeaneicaa.G
open Go.RowKit Go.Proofs.YteaeigpeaneicaaW.PrintWords Go.Proofs.YteaeigpeaneicaaW.PrintLast Go.Proofs.YteaeigpeaneicaaW.PrintMore
attribute [local go_sem] max2_int min2_int max_two min_two max_three min_three max_four min_four   -- for this text's walks alone
set_option linter.unusedVariables false
set_option linter.unusedSimpArgs false

/-! ### rillmeterref11_Small: function 14 -/
def rillmeterref11_Small.l0 : Nat → List (List Int) → Int → Option (Bool)
  | 0, _, _ => none
  | k + 1, x0, x3 => if x3 < (x0.length : Int) then (if 0 ≤ x3 then (if ((rd_L1 x0 x3).length : Int) > 300 then (some false) else (rillmeterref11_Small.l0 k x0 (wrap64 (x3 + 1)))) else (none)) else (some (decide ((x0.length : Int) < 20)))
def rillmeterref11_Small.f (k : Nat) (l0 : List (List Int)) : Option (Bool) := rillmeterref11_Small.l0 k l0 0
theorem rillmeterref11_Small.mono_l : ∀ k, (∀ y0 y1, LeO (rillmeterref11_Small.l0 k y0 y1) (rillmeterref11_Small.l0 (k + 1) y0 y1))
  | 0 => fun _ _ r h => by simp [rillmeterref11_Small.l0] at h
  | k + 1 => by
    have ih0 := rillmeterref11_Small.mono_l k
    · intro y0 y1
      unfold rillmeterref11_Small.l0
      repeat' first
      | (with_reducible exact ih0 _ _)
      | (with_reducible exact LeO.refl _)
      | (with_reducible exact LeO.none _)
      | (with_reducible refine LeO.ite ?_ ?_)
      | (with_reducible refine LeO.bind ?_ (fun _ => ?_))
      | exact ih0 _ _
      | exact LeO.none _
      | refine LeO.ite ?_ ?_
      | refine LeO.bind ?_ (fun _ => ?_)
theorem rillmeterref11_Small.mono : ∀ a0 k, LeO (rillmeterref11_Small.f k a0) (rillmeterref11_Small.f (k + 1) a0) := by
  intro a0 k
  have ih0 := rillmeterref11_Small.mono_l k
  unfold rillmeterref11_Small.f
  repeat' first
      | (with_reducible exact ih0 _ _)
      | (with_reducible exact LeO.refl _)
      | (with_reducible exact LeO.none _)
      | (with_reducible refine LeO.ite ?_ ?_)
      | (with_reducible refine LeO.bind ?_ (fun _ => ?_))
      | exact ih0 _ _
      | exact LeO.none _
      | refine LeO.ite ?_ ?_
      | refine LeO.bind ?_ (fun _ => ?_)
set_option maxHeartbeats 8000000 in
set_option maxRecDepth 100000 in
theorem rillmeterref11_Small.calls (k : Nat) (A0 : Option Addr) (c0 : Nat) (l0 : List (List Int)) (r : Bool) (w : World) (hr0 : Kd.C (Kd.slice 3 (Kd.int .i64)) w A0 l0.length l0) (hc0 : l0.length ≤ c0) (h : rillmeterref11_Small.f k l0 = some r) :
    Calls Try.prog 14 #[.slice A0 l0.length c0] w fun e w' => e = .returned (.bool r) ∧ Drawn0 w w' := by
  have HR0 := Aside0.mk hr0
  have HC0 := Aside0.mk hc0
  clear hr0 hc0
  have H : (rillmeterref11_Small.l0 k l0 0) = some r := h
  clear h
  have H' := Aside0.mk H
  clear H
  go_enter Try.func14, Try.ntmps14
  go_wp2
  go_loopg [3] k (fun kq v3 w' => ∃ (x3_1 : Int), v3 = .int .i64 x3_1 ∧ Aside0 (rillmeterref11_Small.l0 kq l0 x3_1 = some r) ∧ Aside0 (kq ≤ k) ∧ Drawn0 w w')
  case atStart => exact ⟨(0), (by first | rfl | (simp; done) | (simp [*]; done)), H', ⟨Nat.le_refl _⟩, by repeat (first | exact Drawn0.refl _ | apply Drawn0.step)⟩
  case round =>
    clear H'
    try clear c1
    obtain ⟨x3_1, rfl, HA, HK1, ⟨m1, rfl⟩⟩ := hrel
    cases gk with
    | zero => exact absurd HA.out (by simp [rillmeterref11_Small.l0])
    | succ k1 =>
      have H := HA.out
      clear HA
      simp only [rillmeterref11_Small.l0] at H
      by_cases c2 : x3_1 < (l0.length : Int)
      · rw [if_pos c2] at H
        have c2b0 : decide (x3_1 < (l0.length : Int)) = true := decide_eq_true c2
        clear c2
        by_cases c3 : 0 ≤ x3_1
        · rw [if_pos c3] at H
          have c3b0 : decide (0 ≤ x3_1) = true := decide_eq_true c3
          clear c3
          by_cases c4 : ((rd_L1 l0 x3_1).length : Int) > 300
          · rw [if_pos c4] at H
            have c4b0 : decide (300 < ((rd_L1 l0 x3_1).length : Int)) = true := decide_eq_true c4
            have c4b1 : decide (300 < (rd_L1 l0 x3_1).length) = true := decide_eq_true (by omega)
            clear c4
            obtain rfl := Option.some.inj H
            have p216 : 0 ≤ (x3_1 : Int) := of_decide_eq_true (by first | (with_reducible assumption) | assumption)
            have q216 : x3_1 < (l0.length : Int) := of_decide_eq_true (by first | (with_reducible assumption) | assumption)
            obtain ⟨ad216, A216_0, c216_0, e216, hx216_0, hl216_0, hi216_0⟩ := at_L1 HR0.out x3_1 p216 q216
            cases e216
            have HR216_0 := Aside0.mk hi216_0
            have HC216_0 := Aside0.mk hl216_0
            clear hi216_0 hl216_0
            replace p216 := eq_true p216
            replace q216 := eq_true q216
            go_wp2
            go_ret
            exact ⟨by first | rfl | (simp; done) | (simp [*]; done), by repeat (first | exact Drawn0.refl _ | apply Drawn0.step)⟩
          · rw [if_neg c4] at H
            have c4b0 : decide (300 < ((rd_L1 l0 x3_1).length : Int)) = false := decide_eq_false c4
            have c4b1 : decide (300 < (rd_L1 l0 x3_1).length) = false := decide_eq_false (by omega)
            clear c4
            have H' := Aside0.mk H
            clear H
            have p216 : 0 ≤ (x3_1 : Int) := of_decide_eq_true (by first | (with_reducible assumption) | assumption)
            have q216 : x3_1 < (l0.length : Int) := of_decide_eq_true (by first | (with_reducible assumption) | assumption)
            obtain ⟨ad216, A216_0, c216_0, e216, hx216_0, hl216_0, hi216_0⟩ := at_L1 HR0.out x3_1 p216 q216
            cases e216
            have HR216_0 := Aside0.mk hi216_0
            have HC216_0 := Aside0.mk hl216_0
            clear hi216_0 hl216_0
            replace p216 := eq_true p216
            replace q216 := eq_true q216
            go_wp2
            go_roundg k1
            case measure => have := HK1.out; omega
            case rel => exact ⟨(wrap64 (x3_1 + 1)), (by first | rfl | (simp; done) | (simp [*]; done)), H', ⟨by have := HK1.out; omega⟩, by repeat (first | exact Drawn0.refl _ | apply Drawn0.step)⟩
        · rw [if_neg c3] at H
          exact absurd H (by simp)
      · rw [if_neg c2] at H
        have c2b0 : decide (x3_1 < (l0.length : Int)) = false := decide_eq_false c2
        clear c2
        obtain rfl := Option.some.inj H
        go_wp2
        go_ret
        exact ⟨by first | rfl | (simp; done) | (simp [*]; done), by repeat (first | exact Drawn0.refl _ | apply Drawn0.step)⟩

end Go.Proofs.Yteaeigpeaneicaa.G
end

section
-- Printed by gprint.py: a program of this session over the kit's print. Not trusted: Lean checks it.
namespace Go.Proofs.Yteaeigpeaneicaa.G
open Go.RowKit Go.Proofs.YteaeigpeaneicaaW.PrintWords Go.Proofs.YteaeigpeaneicaaW.PrintLast Go.Proofs.YteaeigpeaneicaaW.PrintMore
attribute [local go_sem] max2_int min2_int max_two min_two max_three min_three max_four min_four   -- for this text's walks alone
set_option linter.unusedVariables false
set_option linter.unusedSimpArgs false

/-! ### rillmeterref11_SameRows: function 27 -/
mutual
def rillmeterref11_SameRows.l0 : Nat → List (List Int) → List (List Int) → Int → Option (Bool)
 | 0, _, _, _ => none
 | k + 1, x0, x1, x5 => if x5 < (x0.length : Int) then (if 0 ≤ x5 then (if x5 < (x1.length : Int) then (if ((rd_L1 x0 x5).length : Int) = ((rd_L1 x1 x5).length : Int) then (rillmeterref11_SameRows.l1 k x0 x1 x5 0) else (some false)) else (none)) else (none)) else (some true)
def rillmeterref11_SameRows.l1 : Nat → List (List Int) → List (List Int) → Int → Int → Option (Bool)
 | 0, _, _, _, _ => none
 | k + 1, x0, x1, x5, x6 => if 0 ≤ x5 then (if x5 < (x0.length : Int) then (if x6 < ((rd_L1 x0 x5).length : Int) then (if 0 ≤ x6 then (if x5 < (x1.length : Int) then (if x6 < ((rd_L1 x1 x5).length : Int) then (if (rd (rd_L1 x0 x5) x6) = (rd (rd_L1 x1 x5) x6) then (rillmeterref11_SameRows.l1 k x0 x1 x5 (wrap64 (x6 + 1))) else (some false)) else (none)) else (none)) else (none)) else (rillmeterref11_SameRows.l0 k x0 x1 (wrap64 (x5 + 1)))) else (none)) else (none)
end
def rillmeterref11_SameRows.f (k : Nat) (l0 : List (List Int)) (l1 : List (List Int)) : Option (Bool) := if (l0.length : Int) = (l1.length : Int) then (rillmeterref11_SameRows.l0 k l0 l1 0) else (some false)
theorem rillmeterref11_SameRows.mono_l : ∀ k, (∀ y0 y1 y2, LeO (rillmeterref11_SameRows.l0 k y0 y1 y2) (rillmeterref11_SameRows.l0 (k + 1) y0 y1 y2)) ∧ (∀ y0 y1 y2 y3, LeO (rillmeterref11_SameRows.l1 k y0 y1 y2 y3) (rillmeterref11_SameRows.l1 (k + 1) y0 y1 y2 y3))
 | 0 => ⟨fun _ _ _ r h => by simp [rillmeterref11_SameRows.l0] at h, fun _ _ _ _ r h => by simp [rillmeterref11_SameRows.l1] at h⟩
 | k + 1 => by
  obtain ⟨ih0, ih1⟩ := rillmeterref11_SameRows.mono_l k
  refine ⟨?_, ?_⟩
  ·
   intro y0 y1 y2
   unfold rillmeterref11_SameRows.l0
   repeat' first
   | (with_reducible exact ih0 _ _ _)
   | (with_reducible exact ih1 _ _ _ _)
   | (with_reducible exact LeO.refl _)
   | (with_reducible exact LeO.none _)
   | (with_reducible refine LeO.ite ?_ ?_)
   | (with_reducible refine LeO.bind ?_ (fun _ => ?_))
   | exact ih0 _ _ _
   | exact ih1 _ _ _ _
   | exact LeO.none _
   | refine LeO.ite ?_ ?_
   | refine LeO.bind ?_ (fun _ => ?_)
  ·
   intro y0 y1 y2 y3
   unfold rillmeterref11_SameRows.l1
   repeat' first
   | (with_reducible exact ih0 _ _ _)
   | (with_reducible exact ih1 _ _ _ _)
   | (with_reducible exact LeO.refl _)
   | (with_reducible exact LeO.none _)
   | (with_reducible refine LeO.ite ?_ ?_)
   | (with_reducible refine LeO.bind ?_ (fun _ => ?_))
   | exact ih0 _ _ _
   | exact ih1 _ _ _ _
   | exact LeO.none _
   | refine LeO.ite ?_ ?_
   | refine LeO.bind ?_ (fun _ => ?_)
theorem rillmeterref11_SameRows.mono : ∀ a0 a1 k, LeO (rillmeterref11_SameRows.f k a0 a1) (rillmeterref11_SameRows.f (k + 1) a0 a1) := by
 intro a0 a1 k
 obtain ⟨ih0, ih1⟩ := rillmeterref11_SameRows.mono_l k
 unfold rillmeterref11_SameRows.f
 repeat' first
   | (with_reducible exact ih0 _ _ _)
   | (with_reducible exact ih1 _ _ _ _)
   | (with_reducible exact LeO.refl _)
   | (with_reducible exact LeO.none _)
   | (with_reducible refine LeO.ite ?_ ?_)
   | (with_reducible refine LeO.bind ?_ (fun _ => ?_))
   | exact ih0 _ _ _
   | exact ih1 _ _ _ _
   | exact LeO.none _
   | refine LeO.ite ?_ ?_
   | refine LeO.bind ?_ (fun _ => ?_)
set_option maxHeartbeats 8000000 in
set_option maxRecDepth 100000 in
theorem rillmeterref11_SameRows.calls (k : Nat) (A0 : Option Addr) (c0 : Nat) (l0 : List (List Int)) (A1 : Option Addr) (c1 : Nat) (l1 : List (List Int)) (r : Bool) (w : World) (hr0 : Kd.C (Kd.slice 3 (Kd.int .i64)) w A0 l0.length l0) (hc0 : l0.length ≤ c0) (hr1 : Kd.C (Kd.slice 3 (Kd.int .i64)) w A1 l1.length l1) (hc1 : l1.length ≤ c1) (h : rillmeterref11_SameRows.f k l0 l1 = some r) :
  Calls Try.prog 27 #[.slice A0 l0.length c0, .slice A1 l1.length c1] w fun e w' => e = .returned (.bool r) ∧ Drawn0 w w' := by
 have HR0 := Aside0.mk hr0
 have HC0 := Aside0.mk hc0
 clear hr0 hc0
 have HR1 := Aside0.mk hr1
 have HC1 := Aside0.mk hc1
 clear hr1 hc1
 have H : (if (l0.length : Int) = (l1.length : Int) then (rillmeterref11_SameRows.l0 k l0 l1 0) else (some false)) = some r := h
 clear h
 by_cases c3 : (l0.length : Int) = (l1.length : Int)
 ·
  rw [if_pos c3] at H
  have c3b0 : ((l0.length : Int) == (l1.length : Int)) = true := beq_iff_eq.mpr c3
  have c3b1 : ((l0.length : Int) != (l1.length : Int)) = false := bne_eq_false_iff_eq.mpr c3
  have c3b2 : (l0.length == l1.length) = true := by first | simpa using c3 | (simp at c3 ⊢; omega)
  clear c3
  have H' := Aside0.mk H
  clear H
  go_enter Try.func27, Try.ntmps27
  go_wp2
  repeat (go_quiet (fail); try go_wp2)
  go_loopg [5] k (fun kq v5 w' => ∃ (x5_1 : Int), v5 = .int .i64 x5_1 ∧ Aside0 (rillmeterref11_SameRows.l0 kq l0 l1 x5_1 = some r) ∧ Aside0 (kq ≤ k) ∧ Drawn0 w w')
  case atStart => exact ⟨(0), (by first | rfl | (simp; done) | (simp [*]; done)), H', ⟨Nat.le_refl _⟩, by repeat (first | exact Drawn0.refl _ | apply Drawn0.step)⟩
  case round =>
   clear H'
   try clear c1
   try clear c2
   try clear p2
   try clear c3
   try clear c3b0
   try clear c3b1
   try clear c3b2
   obtain ⟨x5_1, rfl, HA, HK1, ⟨m1, rfl⟩⟩ := hrel
   cases gk with
   | zero => exact absurd HA.out (by simp [rillmeterref11_SameRows.l0])
   | succ k1 =>
    have H := HA.out
    clear HA
    simp only [rillmeterref11_SameRows.l0] at H
    by_cases c4 : x5_1 < (l0.length : Int)
    ·
     rw [if_pos c4] at H
     have c4b0 : decide (x5_1 < (l0.length : Int)) = true := decide_eq_true c4
     clear c4
     by_cases c5 : 0 ≤ x5_1
     ·
      rw [if_pos c5] at H
      have c5b0 : decide (0 ≤ x5_1) = true := decide_eq_true c5
      clear c5
      by_cases c6 : x5_1 < (l1.length : Int)
      ·
       rw [if_pos c6] at H
       have c6b0 : decide (x5_1 < (l1.length : Int)) = true := decide_eq_true c6
       clear c6
       by_cases c7 : ((rd_L1 l0 x5_1).length : Int) = ((rd_L1 l1 x5_1).length : Int)
       ·
        rw [if_pos c7] at H
        have c7b0 : (((rd_L1 l0 x5_1).length : Int) == ((rd_L1 l1 x5_1).length : Int)) = true := beq_iff_eq.mpr c7
        have c7b1 : (((rd_L1 l0 x5_1).length : Int) != ((rd_L1 l1 x5_1).length : Int)) = false := bne_eq_false_iff_eq.mpr c7
        have c7b2 : ((rd_L1 l0 x5_1).length == (rd_L1 l1 x5_1).length) = true := by first | simpa using c7 | (simp at c7 ⊢; omega)
        clear c7
        have H' := Aside0.mk H
        clear H
        have p109 : 0 ≤ (x5_1 : Int) := of_decide_eq_true (by first | (with_reducible assumption) | assumption)
        have q109 : x5_1 < (l0.length : Int) := of_decide_eq_true (by first | (with_reducible assumption) | assumption)
        obtain ⟨ad109, A109_0, c109_0, e109, hx109_0, hl109_0, hi109_0⟩ := at_L1 HR0.out x5_1 p109 q109
        cases e109
        have HR109_0 := Aside0.mk hi109_0
        have HC109_0 := Aside0.mk hl109_0
        clear hi109_0 hl109_0
        replace p109 := eq_true p109
        replace q109 := eq_true q109
        have p110 : 0 ≤ (x5_1 : Int) := of_decide_eq_true (by first | (with_reducible assumption) | assumption)
        have q110 : x5_1 < (l1.length : Int) := of_decide_eq_true (by first | (with_reducible assumption) | assumption)
        obtain ⟨ad110, A110_0, c110_0, e110, hx110_0, hl110_0, hi110_0⟩ := at_L1 HR1.out x5_1 p110 q110
        cases e110
        have HR110_0 := Aside0.mk hi110_0
        have HC110_0 := Aside0.mk hl110_0
        clear hi110_0 hl110_0
        replace p110 := eq_true p110
        replace q110 := eq_true q110
        go_wp2
        repeat (go_quiet (fail); try go_wp2)
        go_loopg [6] k1 (fun kq v6 w' => ∃ (x6_2 : Int), v6 = .int .i64 x6_2 ∧ Aside0 (rillmeterref11_SameRows.l1 kq l0 l1 x5_1 x6_2 = some r) ∧ Aside0 (kq ≤ k1) ∧ Drawn0 w w')
        case atStart => exact ⟨(0), (by first | rfl | (simp; done) | (simp [*]; done)), H', ⟨Nat.le_refl _⟩, by repeat (first | exact Drawn0.refl _ | apply Drawn0.step)⟩
        case round =>
         clear H'
         try clear c1
         try clear p1
         try clear q1
         try clear hx1
         try clear c2
         try clear p2
         try clear c3
         try clear c3b0
         try clear c3b1
         try clear c3b2
         try clear c4
         try clear c4b0
         try clear c5
         try clear c5b0
         try clear c6
         try clear c6b0
         try clear c7
         try clear c7b0
         try clear c7b1
         try clear c7b2
         try clear hx109_0
         try clear hx110_0
         try clear p109
         try clear p110
         try clear p2
         try clear q109
         try clear q110
         obtain ⟨x6_2, rfl, HA, HK2, ⟨m2, rfl⟩⟩ := hrel
         cases gk with
         | zero => exact absurd HA.out (by simp [rillmeterref11_SameRows.l1])
         | succ k2 =>
          have H := HA.out
          clear HA
          simp only [rillmeterref11_SameRows.l1] at H
          by_cases c8 : 0 ≤ x5_1
          ·
           rw [if_pos c8] at H
           have c8b0 : decide (0 ≤ x5_1) = true := decide_eq_true c8
           clear c8
           by_cases c9 : x5_1 < (l0.length : Int)
           ·
            rw [if_pos c9] at H
            have c9b0 : decide (x5_1 < (l0.length : Int)) = true := decide_eq_true c9
            clear c9
            by_cases c10 : x6_2 < ((rd_L1 l0 x5_1).length : Int)
            ·
             rw [if_pos c10] at H
             have c10b0 : decide (x6_2 < ((rd_L1 l0 x5_1).length : Int)) = true := decide_eq_true c10
             clear c10
             by_cases c11 : 0 ≤ x6_2
             ·
              rw [if_pos c11] at H
              have c11b0 : decide (0 ≤ x6_2) = true := decide_eq_true c11
              clear c11
              by_cases c12 : x5_1 < (l1.length : Int)
              ·
               rw [if_pos c12] at H
               have c12b0 : decide (x5_1 < (l1.length : Int)) = true := decide_eq_true c12
               clear c12
               by_cases c13 : x6_2 < ((rd_L1 l1 x5_1).length : Int)
               ·
                rw [if_pos c13] at H
                have c13b0 : decide (x6_2 < ((rd_L1 l1 x5_1).length : Int)) = true := decide_eq_true c13
                clear c13
                by_cases c14 : (rd (rd_L1 l0 x5_1) x6_2) = (rd (rd_L1 l1 x5_1) x6_2)
                ·
                 rw [if_pos c14] at H
                 have c14b0 : ((rd (rd_L1 l0 x5_1) x6_2) == (rd (rd_L1 l1 x5_1) x6_2)) = true := beq_iff_eq.mpr c14
                 have c14b1 : ((rd (rd_L1 l0 x5_1) x6_2) != (rd (rd_L1 l1 x5_1) x6_2)) = false := bne_eq_false_iff_eq.mpr c14
                 clear c14
                 have H' := Aside0.mk H
                 clear H
                 have p111 : 0 ≤ (x5_1 : Int) := of_decide_eq_true (by first | (with_reducible assumption) | assumption)
                 have q111 : x5_1 < (l0.length : Int) := of_decide_eq_true (by first | (with_reducible assumption) | assumption)
                 obtain ⟨ad111, A111_0, c111_0, e111, hx111_0, hl111_0, hi111_0⟩ := at_L1 HR0.out x5_1 p111 q111
                 obtain rfl : ad109 = ad111 := (by injection e111)
                 have HR111_0 := Aside0.mk hi111_0
                 have HC111_0 := Aside0.mk hl111_0
                 clear hi111_0 hl111_0
                 replace p111 := eq_true p111
                 replace q111 := eq_true q111
                 have p112 : 0 ≤ (x5_1 : Int) := of_decide_eq_true (by first | (with_reducible assumption) | assumption)
                 have q112 : x5_1 < (l0.length : Int) := of_decide_eq_true (by first | (with_reducible assumption) | assumption)
                 obtain ⟨ad112, A112_0, c112_0, e112, hx112_0, hl112_0, hi112_0⟩ := at_L1 HR0.out x5_1 p112 q112
                 obtain rfl : ad109 = ad112 := (by injection e112)
                 have HR112_0 := Aside0.mk hi112_0
                 have HC112_0 := Aside0.mk hl112_0
                 clear hi112_0 hl112_0
                 replace p112 := eq_true p112
                 replace q112 := eq_true q112
                 have ea_ := Option.some.inj (hx111_0.symm.trans hx112_0)
                 injection ea_ with ea_ en_ ec_
                 subst ea_
                 subst ec_
                 clear en_
                 have p113 : 0 ≤ (x6_2 : Int) := of_decide_eq_true (by first | (with_reducible assumption) | assumption)
                 have q113 : x6_2 < ((rd_L1 l0 x5_1).length : Int) := of_decide_eq_true (by first | (with_reducible assumption) | assumption)
                 obtain ⟨ad113, e113, hx113_0⟩ := Kd.at_int HR112_0.out x6_2 p113 q113
                 cases e113
                 replace p113 := eq_true p113
                 replace q113 := eq_true q113
                 have p114 : 0 ≤ (x5_1 : Int) := of_decide_eq_true (by first | (with_reducible assumption) | assumption)
                 have q114 : x5_1 < (l1.length : Int) := of_decide_eq_true (by first | (with_reducible assumption) | assumption)
                 obtain ⟨ad114, A114_0, c114_0, e114, hx114_0, hl114_0, hi114_0⟩ := at_L1 HR1.out x5_1 p114 q114
                 obtain rfl : ad110 = ad114 := (by injection e114)
                 have HR114_0 := Aside0.mk hi114_0
                 have HC114_0 := Aside0.mk hl114_0
                 clear hi114_0 hl114_0
                 replace p114 := eq_true p114
                 replace q114 := eq_true q114
                 have p115 : 0 ≤ (x6_2 : Int) := of_decide_eq_true (by first | (with_reducible assumption) | assumption)
                 have q115 : x6_2 < ((rd_L1 l1 x5_1).length : Int) := of_decide_eq_true (by first | (with_reducible assumption) | assumption)
                 obtain ⟨ad115, e115, hx115_0⟩ := Kd.at_int HR114_0.out x6_2 p115 q115
                 cases e115
                 replace p115 := eq_true p115
                 replace q115 := eq_true q115
                 go_wp2
                 repeat (go_quiet (fail); try go_wp2)
                 go_roundg k2
                 case measure => have := HK1.out; have := HK2.out; omega
                 case rel => exact ⟨(wrap64 (x6_2 + 1)), (by first | rfl | (simp; done) | (simp [*]; done)), H', ⟨by have := HK1.out; have := HK2.out; omega⟩, by repeat (first | exact Drawn0.refl _ | apply Drawn0.step)⟩
                ·
                 rw [if_neg c14] at H
                 have c14b0 : ((rd (rd_L1 l0 x5_1) x6_2) == (rd (rd_L1 l1 x5_1) x6_2)) = false := beq_eq_false_iff_ne.mpr c14
                 have c14b1 : ((rd (rd_L1 l0 x5_1) x6_2) != (rd (rd_L1 l1 x5_1) x6_2)) = true := bne_iff_ne.mpr c14
                 obtain rfl := Option.some.inj H
                 have p111 : 0 ≤ (x5_1 : Int) := of_decide_eq_true (by first | (with_reducible assumption) | assumption)
                 have q111 : x5_1 < (l0.length : Int) := of_decide_eq_true (by first | (with_reducible assumption) | assumption)
                 obtain ⟨ad111, A111_0, c111_0, e111, hx111_0, hl111_0, hi111_0⟩ := at_L1 HR0.out x5_1 p111 q111
                 obtain rfl : ad109 = ad111 := (by injection e111)
                 have HR111_0 := Aside0.mk hi111_0
                 have HC111_0 := Aside0.mk hl111_0
                 clear hi111_0 hl111_0
                 replace p111 := eq_true p111
                 replace q111 := eq_true q111
                 have p112 : 0 ≤ (x5_1 : Int) := of_decide_eq_true (by first | (with_reducible assumption) | assumption)
                 have q112 : x5_1 < (l0.length : Int) := of_decide_eq_true (by first | (with_reducible assumption) | assumption)
                 obtain ⟨ad112, A112_0, c112_0, e112, hx112_0, hl112_0, hi112_0⟩ := at_L1 HR0.out x5_1 p112 q112
                 obtain rfl : ad109 = ad112 := (by injection e112)
                 have HR112_0 := Aside0.mk hi112_0
                 have HC112_0 := Aside0.mk hl112_0
                 clear hi112_0 hl112_0
                 replace p112 := eq_true p112
                 replace q112 := eq_true q112
                 have ea_ := Option.some.inj (hx111_0.symm.trans hx112_0)
                 injection ea_ with ea_ en_ ec_
                 subst ea_
                 subst ec_
                 clear en_
                 have p113 : 0 ≤ (x6_2 : Int) := of_decide_eq_true (by first | (with_reducible assumption) | assumption)
                 have q113 : x6_2 < ((rd_L1 l0 x5_1).length : Int) := of_decide_eq_true (by first | (with_reducible assumption) | assumption)
                 obtain ⟨ad113, e113, hx113_0⟩ := Kd.at_int HR112_0.out x6_2 p113 q113
                 cases e113
                 replace p113 := eq_true p113
                 replace q113 := eq_true q113
                 have p114 : 0 ≤ (x5_1 : Int) := of_decide_eq_true (by first | (with_reducible assumption) | assumption)
                 have q114 : x5_1 < (l1.length : Int) := of_decide_eq_true (by first | (with_reducible assumption) | assumption)
                 obtain ⟨ad114, A114_0, c114_0, e114, hx114_0, hl114_0, hi114_0⟩ := at_L1 HR1.out x5_1 p114 q114
                 obtain rfl : ad110 = ad114 := (by injection e114)
                 have HR114_0 := Aside0.mk hi114_0
                 have HC114_0 := Aside0.mk hl114_0
                 clear hi114_0 hl114_0
                 replace p114 := eq_true p114
                 replace q114 := eq_true q114
                 have p115 : 0 ≤ (x6_2 : Int) := of_decide_eq_true (by first | (with_reducible assumption) | assumption)
                 have q115 : x6_2 < ((rd_L1 l1 x5_1).length : Int) := of_decide_eq_true (by first | (with_reducible assumption) | assumption)
                 obtain ⟨ad115, e115, hx115_0⟩ := Kd.at_int HR114_0.out x6_2 p115 q115
                 cases e115
                 replace p115 := eq_true p115
                 replace q115 := eq_true q115
                 go_wp2
                 repeat (go_quiet (fail); try go_wp2)
                 go_ret
                 exact ⟨by first | rfl | (simp; done) | (simp [*]; done), by repeat (first | exact Drawn0.refl _ | apply Drawn0.step)⟩
               ·
                rw [if_neg c13] at H
                exact absurd H (by simp)
              ·
               rw [if_neg c12] at H
               exact absurd H (by simp)
             ·
              rw [if_neg c11] at H
              exact absurd H (by simp)
            ·
             rw [if_neg c10] at H
             have c10b0 : decide (x6_2 < ((rd_L1 l0 x5_1).length : Int)) = false := decide_eq_false c10
             clear c10
             have H' := Aside0.mk H
             clear H
             have p111 : 0 ≤ (x5_1 : Int) := of_decide_eq_true (by first | (with_reducible assumption) | assumption)
             have q111 : x5_1 < (l0.length : Int) := of_decide_eq_true (by first | (with_reducible assumption) | assumption)
             obtain ⟨ad111, A111_0, c111_0, e111, hx111_0, hl111_0, hi111_0⟩ := at_L1 HR0.out x5_1 p111 q111
             obtain rfl : ad109 = ad111 := (by injection e111)
             have HR111_0 := Aside0.mk hi111_0
             have HC111_0 := Aside0.mk hl111_0
             clear hi111_0 hl111_0
             replace p111 := eq_true p111
             replace q111 := eq_true q111
             go_wp2
             repeat (go_quiet (fail); try go_wp2)
             go_roundg k2
             case measure => have := HK1.out; have := HK2.out; omega
             case rel => exact ⟨(wrap64 (x5_1 + 1)), (by first | rfl | (simp; done) | (simp [*]; done)), H', ⟨by have := HK1.out; have := HK2.out; omega⟩, by repeat (first | exact Drawn0.refl _ | apply Drawn0.step)⟩
           ·
            rw [if_neg c9] at H
            exact absurd H (by simp)
          ·
           rw [if_neg c8] at H
           exact absurd H (by simp)
       ·
        rw [if_neg c7] at H
        have c7b0 : (((rd_L1 l0 x5_1).length : Int) == ((rd_L1 l1 x5_1).length : Int)) = false := beq_eq_false_iff_ne.mpr c7
        have c7b1 : (((rd_L1 l0 x5_1).length : Int) != ((rd_L1 l1 x5_1).length : Int)) = true := bne_iff_ne.mpr c7
        have c7b2 : ((rd_L1 l0 x5_1).length == (rd_L1 l1 x5_1).length) = false := by first | simpa using c7 | (simp at c7 ⊢; omega)
        obtain rfl := Option.some.inj H
        have p109 : 0 ≤ (x5_1 : Int) := of_decide_eq_true (by first | (with_reducible assumption) | assumption)
        have q109 : x5_1 < (l0.length : Int) := of_decide_eq_true (by first | (with_reducible assumption) | assumption)
        obtain ⟨ad109, A109_0, c109_0, e109, hx109_0, hl109_0, hi109_0⟩ := at_L1 HR0.out x5_1 p109 q109
        cases e109
        have HR109_0 := Aside0.mk hi109_0
        have HC109_0 := Aside0.mk hl109_0
        clear hi109_0 hl109_0
        replace p109 := eq_true p109
        replace q109 := eq_true q109
        have p110 : 0 ≤ (x5_1 : Int) := of_decide_eq_true (by first | (with_reducible assumption) | assumption)
        have q110 : x5_1 < (l1.length : Int) := of_decide_eq_true (by first | (with_reducible assumption) | assumption)
        obtain ⟨ad110, A110_0, c110_0, e110, hx110_0, hl110_0, hi110_0⟩ := at_L1 HR1.out x5_1 p110 q110
        cases e110
        have HR110_0 := Aside0.mk hi110_0
        have HC110_0 := Aside0.mk hl110_0
        clear hi110_0 hl110_0
        replace p110 := eq_true p110
        replace q110 := eq_true q110
        go_wp2
        repeat (go_quiet (fail); try go_wp2)
        go_ret
        exact ⟨by first | rfl | (simp; done) | (simp [*]; done), by repeat (first | exact Drawn0.refl _ | apply Drawn0.step)⟩
      ·
       rw [if_neg c6] at H
       exact absurd H (by simp)
     ·
      rw [if_neg c5] at H
      exact absurd H (by simp)
    ·
     rw [if_neg c4] at H
     have c4b0 : decide (x5_1 < (l0.length : Int)) = false := decide_eq_false c4
     clear c4
     obtain rfl := Option.some.inj H
     go_wp2
     repeat (go_quiet (fail); try go_wp2)
     go_ret
     exact ⟨by first | rfl | (simp; done) | (simp [*]; done), by repeat (first | exact Drawn0.refl _ | apply Drawn0.step)⟩
 ·
  rw [if_neg c3] at H
  have c3b0 : ((l0.length : Int) == (l1.length : Int)) = false := beq_eq_false_iff_ne.mpr c3
  have c3b1 : ((l0.length : Int) != (l1.length : Int)) = true := bne_iff_ne.mpr c3
  have c3b2 : (l0.length == l1.length) = false := by first | simpa using c3 | (simp at c3 ⊢; omega)
  obtain rfl := Option.some.inj H
  go_enter Try.func27, Try.ntmps27
  go_wp2
  repeat (go_quiet (fail); try go_wp2)
  go_ret
  exact ⟨by first | rfl | (simp; done) | (simp [*]; done), by repeat (first | exact Drawn0.refl _ | apply Drawn0.step)⟩

end Go.Proofs.Yteaeigpeaneicaa.G
end

section
-- Printed by gprint.py: a program of this session over the kit's print. Not trusted: Lean checks it.
namespace Go.Proofs.Yteaeigpeaneicaa.G
open Go.RowKit Go.Proofs.YteaeigpeaneicaaW.PrintWords Go.Proofs.YteaeigpeaneicaaW.PrintLast Go.Proofs.YteaeigpeaneicaaW.PrintMore
attribute [local go_sem] max2_int min2_int max_two min_two max_three min_three max_four min_four   -- for this text's walks alone
set_option linter.unusedVariables false
set_option linter.unusedSimpArgs false

/-! ### rillmeterref12_Equal: function 10 -/
def rillmeterref12_Equal.f (k : Nat) (a0_0 : Int) (l0_1 : List (List Int)) (a1_0 : Int) (l1_1 : List (List Int)) : Option (Bool) := if a0_0 = a1_0 then ((rillmeterref11_SameRows.f k l0_1 l1_1).bind fun t118 => (some t118)) else (some false)
theorem rillmeterref12_Equal.mono : ∀ a0 a1 a2 a3 k, LeO (rillmeterref12_Equal.f k a0 a1 a2 a3) (rillmeterref12_Equal.f (k + 1) a0 a1 a2 a3) := by
 intro a0 a1 a2 a3 k
 unfold rillmeterref12_Equal.f
 repeat' first
   | (with_reducible exact rillmeterref11_SameRows.mono _ _ _)
   | (with_reducible exact LeO.refl _)
   | (with_reducible exact LeO.none _)
   | (with_reducible refine LeO.ite ?_ ?_)
   | (with_reducible refine LeO.bind ?_ (fun _ => ?_))
   | exact rillmeterref11_SameRows.mono _ _ _
   | exact LeO.none _
   | refine LeO.ite ?_ ?_
   | refine LeO.bind ?_ (fun _ => ?_)
set_option maxHeartbeats 8000000 in
set_option maxRecDepth 100000 in
theorem rillmeterref12_Equal.calls (k : Nat) (a0_0 : Int) (A0_1 : Option Addr) (c0_1 : Nat) (l0_1 : List (List Int)) (a1_0 : Int) (A1_1 : Option Addr) (c1_1 : Nat) (l1_1 : List (List Int)) (r : Bool) (w : World) (hr0_1 : Kd.C (Kd.slice 3 (Kd.int .i64)) w A0_1 l0_1.length l0_1) (hc0_1 : l0_1.length ≤ c0_1) (hr1_1 : Kd.C (Kd.slice 3 (Kd.int .i64)) w A1_1 l1_1.length l1_1) (hc1_1 : l1_1.length ≤ c1_1) (h : rillmeterref12_Equal.f k a0_0 l0_1 a1_0 l1_1 = some r) :
  Calls Try.prog 10 #[.agg #[.int .u64 a0_0, .slice A0_1 l0_1.length c0_1], .agg #[.int .u64 a1_0, .slice A1_1 l1_1.length c1_1]] w fun e w' => e = .returned (.bool r) ∧ Below w.heap.size w w' := by
 have hu30 := Try.underlying30
 have HR0_1 := Aside0.mk hr0_1
 have HC0_1 := Aside0.mk hc0_1
 clear hr0_1 hc0_1
 have HR1_1 := Aside0.mk hr1_1
 have HC1_1 := Aside0.mk hc1_1
 clear hr1_1 hc1_1
 have HB := Aside0.mk (Below.refl w.heap.size w)
 have H : (if a0_0 = a1_0 then ((rillmeterref11_SameRows.f k l0_1 l1_1).bind fun t118 => (some t118)) else (some false)) = some r := h
 clear h
 by_cases c3 : a0_0 = a1_0
 ·
  rw [if_pos c3] at H
  have c3b0 : (a0_0 == a1_0) = true := beq_iff_eq.mpr c3
  have c3b1 : (a0_0 != a1_0) = false := bne_eq_false_iff_eq.mpr c3
  clear c3
  replace H := Option.bind_eq_some_iff.mp H
  obtain ⟨t118, A40, H⟩ := H
  replace H : (some t118) = some r := H
  have A4 := Aside0.mk A40
  clear A40
  obtain rfl := Option.some.inj H
  go_enter Try.func10, Try.ntmps10
  go_wp2_with (first | ((with_reducible refine gate_dst (N := 2) rfl ?_); refine box_event ?hg (N := 2) ?hd (cs := #[.int .u64 a0_0, .slice A0_1 l0_1.length c0_1]) (t := 30) ?hr ?_; (case hd => rfl); (case hg => rfl); (case hr => first | (go_simp; done) | (go_simp; rfl)); intro gb116 hg w5 hbox hb; have BK116 := Aside0.mk (hbox); have GW116 := geN HB hg; have GE116 := geN HB hg; replace HB := stB HB hb; clear hb hbox hg) | ((with_reducible refine gate_dst (N := 3) rfl ?_); refine box_event ?hg (N := 3) ?hd (cs := #[.int .u64 a1_0, .slice A1_1 l1_1.length c1_1]) (t := 30) ?hr ?_; (case hd => rfl); (case hg => rfl); (case hr => first | (go_simp; done) | (go_simp; rfl)); intro gb117 hg w6 hbox hb; have BK117 := Aside0.mk (hbox); have GW117 := geN HB hg; have GE117 := geN HB hg; have NB116_117 := neL BK116 hg; have NB117_116 := neG BK116 hg; replace BK116 := bB BK116 hb; replace HB := stB HB hb; clear hb hbox hg; have hnb7 := NB116_117.out; have hnc7 := NB117_116.out; have hcz8_0 : w6.cell? ⟨gb116, 0, none⟩ = some (.int .u64 a0_0) := (blk_cell BK116.out 0).trans rfl; have hcz8_1 : w6.cell? ⟨gb116, 1, none⟩ = some (.slice A0_1 l0_1.length c0_1) := (blk_cell BK116.out 1).trans rfl; have hfz8_0 := blk_frozen BK116.out 0; have hfz8_1 := blk_frozen BK116.out 1; have hcz9_0 : w6.cell? ⟨gb117, 0, none⟩ = some (.int .u64 a1_0) := (blk_cell BK117.out 0).trans rfl; have hcz9_1 : w6.cell? ⟨gb117, 1, none⟩ = some (.slice A1_1 l1_1.length c1_1) := (blk_cell BK117.out 1).trans rfl; have hfz9_0 := blk_frozen BK117.out 0; have hfz9_1 := blk_frozen BK117.out 1) | (go_at_call 27; (with_reducible refine (rillmeterref11_SameRows.calls k _ _ l0_1 _ _ l1_1 t118 _ ?side1 ?side2 ?side3 ?side4 A4.out).mono ?_); (case side1 => repeat (first | exact (Kd.C_below HR0_1.out HB.out) | (with_reducible refine Kd.C_alloc ?_ _) | (with_reducible refine Kd.C_drewN ?_ _) | (with_reducible refine Kd.C_drew ?_))); (case side2 => exact HC0_1.out); (case side3 => repeat (first | exact (Kd.C_below HR1_1.out HB.out) | (with_reducible refine Kd.C_alloc ?_ _) | (with_reducible refine Kd.C_drewN ?_ _) | (with_reducible refine Kd.C_drew ?_))); (case side4 => exact HC1_1.out); rintro e w' ⟨rfl, ⟨nd, rfl⟩⟩))
  go_ret
  exact ⟨by first | rfl | (simp [errW_none, errW_some] <;> rfl) | (simp [*, errW_none, errW_some] <;> rfl), by repeat (first | (with_reducible first | exact HB.out | apply below_alloc | apply pw_below_drewN | apply below_drew1 | refine below_set ?_ GE116.out | refine below_set ?_ GE117.out) | exact HB.out)⟩
 ·
  rw [if_neg c3] at H
  have c3b0 : (a0_0 == a1_0) = false := beq_eq_false_iff_ne.mpr c3
  have c3b1 : (a0_0 != a1_0) = true := bne_iff_ne.mpr c3
  obtain rfl := Option.some.inj H
  go_enter Try.func10, Try.ntmps10
  go_wp2_with (first | ((with_reducible refine gate_dst (N := 2) rfl ?_); refine box_event ?hg (N := 2) ?hd (cs := #[.int .u64 a0_0, .slice A0_1 l0_1.length c0_1]) (t := 30) ?hr ?_; (case hd => rfl); (case hg => rfl); (case hr => first | (go_simp; done) | (go_simp; rfl)); intro gb116 hg w10 hbox hb; have BK116 := Aside0.mk (hbox); have GW116 := geN HB hg; have GE116 := geN HB hg; replace HB := stB HB hb; clear hb hbox hg) | ((with_reducible refine gate_dst (N := 3) rfl ?_); refine box_event ?hg (N := 3) ?hd (cs := #[.int .u64 a1_0, .slice A1_1 l1_1.length c1_1]) (t := 30) ?hr ?_; (case hd => rfl); (case hg => rfl); (case hr => first | (go_simp; done) | (go_simp; rfl)); intro gb117 hg w11 hbox hb; have BK117 := Aside0.mk (hbox); have GW117 := geN HB hg; have GE117 := geN HB hg; have NB116_117 := neL BK116 hg; have NB117_116 := neG BK116 hg; replace BK116 := bB BK116 hb; replace HB := stB HB hb; clear hb hbox hg; have hnb12 := NB116_117.out; have hnc12 := NB117_116.out; have hcz13_0 : w11.cell? ⟨gb116, 0, none⟩ = some (.int .u64 a0_0) := (blk_cell BK116.out 0).trans rfl; have hcz13_1 : w11.cell? ⟨gb116, 1, none⟩ = some (.slice A0_1 l0_1.length c0_1) := (blk_cell BK116.out 1).trans rfl; have hfz13_0 := blk_frozen BK116.out 0; have hfz13_1 := blk_frozen BK116.out 1; have hcz14_0 : w11.cell? ⟨gb117, 0, none⟩ = some (.int .u64 a1_0) := (blk_cell BK117.out 0).trans rfl; have hcz14_1 : w11.cell? ⟨gb117, 1, none⟩ = some (.slice A1_1 l1_1.length c1_1) := (blk_cell BK117.out 1).trans rfl; have hfz14_0 := blk_frozen BK117.out 0; have hfz14_1 := blk_frozen BK117.out 1))
  go_ret
  exact ⟨by first | rfl | (simp [errW_none, errW_some] <;> rfl) | (simp [*, errW_none, errW_some] <;> rfl), by repeat (first | (with_reducible first | exact HB.out | apply below_alloc | apply pw_below_drewN | apply below_drew1 | refine below_set ?_ GE116.out | refine below_set ?_ GE117.out) | exact HB.out)⟩

end Go.Proofs.Yteaeigpeaneicaa.G
end

section
/- Layer 12 as plain functions on lists: what the program's functions come to. -/
namespace Go.Proofs.Yteaeigpeaneicaa.G
open Go Go.RowKit Go.Proofs.YteaeigpeaneicaaW.PrintWords Go.Proofs.YteaeigpeaneicaaPlain

/-! lists -/
theorem rdL1_get (rows : List (List Int)) (i : Nat) (h : i < rows.length) : rd_L1 rows (i : Int) = rows[i] := by simp [rd_L1, h]
theorem rd_get (r : List Int) (i : Nat) (h : i < r.length) : rd r (i : Int) = r[i] := by simp [rd, h]
theorem rd_mem (r : List Int) (i : Int) (h0 : 0 ≤ i) (h : i < r.length) : rd r i ∈ r := by
  obtain ⟨n, rfl⟩ := Int.eq_ofNat_of_zero_le h0
  rw [rd_get r n (by omega)]; exact List.getElem_mem _
theorem rd_set_same (r : List Int) (i v : Int) (h0 : 0 ≤ i) (h : i < r.length) : rd (r.set i.toNat v) i = v := by
  unfold rd; rw [List.getD_eq_getElem?_getD, List.getElem?_set_self (by omega)]; rfl
/-! smallness -/
def smallB (rows : List (List Int)) : Bool := rows.all (fun r => decide (r.length ≤ 300)) && decide (rows.length < 20)
theorem ref11_Small_l0 (rows : List (List Int)) (hl : rows.length ≤ 140737488351232) (d : Nat) : ∀ i : Nat, i + d = rows.length → (∀ j, j < i → ∀ r, rows[j]? = some r → r.length ≤ 300) →
    Ev (fun k => rillmeterref11_Small.l0 k rows (i : Int)) (smallB rows) := by
  induction d with
  | zero =>
    intro i hi hp
    refine Ev.step (f := fun _ => some (smallB rows)) (fun k => ?_) (Ev.now _)
    simp only [rillmeterref11_Small.l0]
    rw [if_neg (by omega)]
    congr 1
    have : rows.all (fun r => decide (r.length ≤ 300)) = true := by
      rw [List.all_eq_true]; intro r hr
      obtain ⟨j, hj, rfl⟩ := List.getElem_of_mem hr
      exact decide_eq_true (hp j (by omega) _ (List.getElem?_eq_getElem hj))
    unfold smallB
    rw [this, Bool.true_and]
    exact decide_eq_decide.2 (by omega)
  | succ d ih =>
    intro i hi hp
    have hil : i < rows.length := by omega
    by_cases c : (rows[i].length : Int) > 300
    · refine Ev.step (f := fun _ => some (smallB rows)) (fun k => ?_) (Ev.now _)
      simp only [rillmeterref11_Small.l0]
      rw [if_pos (by omega), if_pos (by omega), rdL1_get rows i hil, if_pos c]
      congr 1
      have : rows.all (fun r => decide (r.length ≤ 300)) = false := by
        rw [List.all_eq_false]; exact ⟨rows[i], List.getElem_mem hil, by simp; omega⟩
      unfold smallB
      rw [this, Bool.false_and]
    · refine Ev.step (fun k => ?_) (ih (i + 1) (by omega) (fun j hj r hr => ?_))
      · simp only [rillmeterref11_Small.l0]
        rw [if_pos (by omega), if_pos (by omega), rdL1_get rows i hil, if_neg c, w64_id (by omega) (by omega)]
        rfl
      · by_cases e : j = i
        · subst e; rw [List.getElem?_eq_getElem hil] at hr; cases hr; omega
        · exact hp j (by omega) r hr
theorem ref11_Small_ev (rows : List (List Int)) (hl : rows.length ≤ 140737488351232) : Ev (fun k => rillmeterref11_Small.f k rows) (smallB rows) :=
  ref11_Small_l0 rows hl rows.length 0 (by omega) (fun j hj => absurd hj (Nat.not_lt_zero _))
/-! equality -/
theorem ref11_SameRows_l1 (a b : List (List Int)) (i : Nat) (r : Bool) (ha : i < a.length) (hb : i < b.length) (hl : a[i].length = b[i].length) (hn : a[i].length ≤ 140737488351232) (hi : i ≤ 140737488351232)
    (hnext : a[i] = b[i] → Ev (fun k => rillmeterref11_SameRows.l0 k a b ((i + 1 : Nat) : Int)) r) (hne : a[i] ≠ b[i] → r = false) (d : Nat) : ∀ j : Nat, j + d = a[i].length → (∀ q, q < j → ∀ (h1 : q < a[i].length) (h2 : q < b[i].length), a[i][q] = b[i][q]) →
    Ev (fun k => rillmeterref11_SameRows.l1 k a b (i : Int) (j : Int)) r := by
  induction d with
  | zero =>
    intro j hj hp
    have he : a[i] = b[i] := List.ext_getElem hl (fun q h1 h2 => hp q (by omega) h1 h2)
    refine Ev.step (fun k => ?_) (hnext he)
    simp only [rillmeterref11_SameRows.l1]
    rw [if_pos (by omega), if_pos (by omega), rdL1_get a i ha, if_neg (by omega), w64_id (by omega) (by omega)]
    rfl
  | succ d ih =>
    intro j hj hp
    have hj1 : j < a[i].length := by omega
    have hj2 : j < b[i].length := by omega
    by_cases c : a[i][j] = b[i][j]
    · refine Ev.step (fun k => ?_) (ih (j + 1) (by omega) (fun q hq h1 h2 => ?_))
      · simp only [rillmeterref11_SameRows.l1]
        rw [if_pos (by omega), if_pos (by omega), rdL1_get a i ha, rdL1_get b i hb, if_pos (by omega), if_pos (by omega), if_pos (by omega), if_pos (by omega), rd_get _ j hj1, rd_get _ j hj2, if_pos c, w64_id (by omega) (by omega)]
        rfl
      · by_cases e : q = j
        · subst e; exact c
        · exact hp q (by omega) h1 h2
    · have hr : r = false := hne (fun e => c (by simp [e]))
      subst hr
      refine Ev.step (f := fun _ => some false) (fun k => ?_) (Ev.now _)
      simp only [rillmeterref11_SameRows.l1]
      rw [if_pos (by omega), if_pos (by omega), rdL1_get a i ha, rdL1_get b i hb, if_pos (by omega), if_pos (by omega), if_pos (by omega), if_pos (by omega), rd_get _ j hj1, rd_get _ j hj2, if_neg c]
theorem ref11_SameRows_l0 (a b : List (List Int)) (hl : a.length = b.length) (ha : a.length ≤ 140737488351232) (hr : ∀ x ∈ a, x.length ≤ 140737488351232) (d : Nat) : ∀ i : Nat, i + d = a.length → (∀ q, q < i → ∀ (h1 : q < a.length) (h2 : q < b.length), a[q] = b[q]) →
    Ev (fun k => rillmeterref11_SameRows.l0 k a b (i : Int)) (decide (a = b)) := by
  induction d with
  | zero =>
    intro i hi hp
    have he : a = b := List.ext_getElem hl (fun q h1 h2 => hp q (by omega) h1 h2)
    rw [decide_eq_true he]
    refine Ev.step (f := fun _ => some true) (fun k => ?_) (Ev.now _)
    simp only [rillmeterref11_SameRows.l0]
    rw [if_neg (by omega)]
  | succ d ih =>
    intro i hi hp
    have h1 : i < a.length := by omega
    have h2 : i < b.length := by omega
    by_cases c : a[i].length = b[i].length
    · refine Ev.step (f := fun k => rillmeterref11_SameRows.l1 k a b (i : Int) ((0 : Nat) : Int)) (fun k => ?_) (ref11_SameRows_l1 a b i _ h1 h2 c (hr _ (List.getElem_mem h1)) (by omega) (fun he => ih (i + 1) (by omega) (fun q hq e1 e2 => ?_)) (fun hne => ?_) a[i].length 0 (by omega) (fun q hq => absurd hq (Nat.not_lt_zero _)))
      · simp only [rillmeterref11_SameRows.l0]
        rw [if_pos (by omega), if_pos (by omega), if_pos (by omega), rdL1_get a i h1, rdL1_get b i h2, if_pos (by omega)]
        rfl
      · by_cases e : q = i
        · subst e; exact he
        · exact hp q (by omega) e1 e2
      · exact decide_eq_false (fun e => hne (by simp [e]))
    · rw [decide_eq_false (fun e => c (by simp [e]))]
      refine Ev.step (f := fun _ => some false) (fun k => ?_) (Ev.now _)
      simp only [rillmeterref11_SameRows.l0]
      rw [if_pos (by omega), if_pos (by omega), if_pos (by omega), rdL1_get a i h1, rdL1_get b i h2, if_neg (by omega)]
theorem ref11_SameRows_ev (a b : List (List Int)) (ha : a.length ≤ 140737488351232) (hr : ∀ x ∈ a, x.length ≤ 140737488351232) : Ev (fun k => rillmeterref11_SameRows.f k a b) (decide (a = b)) := by
  by_cases c : a.length = b.length
  · refine Ev.congr (fun k => ?_) (ref11_SameRows_l0 a b c ha hr a.length 0 (by omega) (fun q hq => absurd hq (Nat.not_lt_zero _)))
    unfold rillmeterref11_SameRows.f
    rw [if_pos (by omega)]
    rfl
  · rw [decide_eq_false (fun e => c (by rw [e]))]
    refine Ev.congr (fun k => ?_) (Ev.now false)
    unfold rillmeterref11_SameRows.f
    rw [if_neg (by omega)]
theorem ref12_Equal_ev (s : Int) (a : List (List Int)) (t : Int) (b : List (List Int)) (ha : a.length ≤ 140737488351232) (hr : ∀ x ∈ a, x.length ≤ 140737488351232) : Ev (fun k => rillmeterref12_Equal.f k s a t b) (decide (s = t ∧ a = b)) := by
  by_cases c : s = t
  · have e : decide (s = t ∧ a = b) = decide (a = b) := decide_eq_decide.2 ⟨fun h => h.2, fun h => ⟨c, h⟩⟩
    rw [e]
    refine Ev.congr (f := fun k => (rillmeterref11_SameRows.f k a b).bind some) (fun k => ?_) (Ev.bind (f := fun _ x => some x) (ref11_SameRows_ev a b ha hr) (Ev.now _))
    unfold rillmeterref12_Equal.f
    rw [if_pos c]
  · rw [decide_eq_false (fun e => c e.1)]
    refine Ev.congr (fun k => ?_) (Ev.now false)
    unfold rillmeterref12_Equal.f
    rw [if_neg c]
end Go.Proofs.Yteaeigpeaneicaa.G
end

section
/- Layer 12: Add, Get, New and Cell on lists. -/
namespace Go.Proofs.Yteaeigpeaneicaa.G
open Go Go.RowKit Go.Proofs.YteaeigpeaneicaaW.PrintWords Go.Proofs.YteaeigpeaneicaaPlain

theorem fits_iff (n : Int) : signed_Right.fits n = true ↔ -1099511627776 ≤ n ∧ n ≤ 1099511627776 := by
  unfold signed_Right.fits; simp
theorem addfits_iff (n : Int) : signed_Add.fits n = true ↔ -1099511627776 ≤ n ∧ n ≤ 1099511627776 := fits_iff n
/-- Rows that are right. -/
structure OkRows (rows : List (List Int)) : Prop where
  num : rows.length ≤ 7
  odd : rows.length % 2 = 1
  len : ∀ r ∈ rows, 1 ≤ r.length ∧ r.length ≤ 256
  same : ∀ r ∈ rows, r.length = (rows.headD []).length
  val : ∀ r ∈ rows, ∀ v ∈ r, -1099511627776 ≤ v ∧ v ≤ 1099511627776
theorem ok_iff (rows : List (List Int)) : signed_Right.ok rows = true ↔ OkRows rows := by
  unfold signed_Right.ok signed_Right.row
  simp only [Bool.and_eq_true, decide_eq_true_eq, List.all_eq_true, fits_iff]
  constructor
  · rintro ⟨⟨h1, h2⟩, h3⟩
    exact ⟨h1, h2, fun r hr => ⟨(h3 r hr).1.1.1, (h3 r hr).1.1.2⟩, fun r hr => (h3 r hr).1.2, fun r hr v hv => (h3 r hr).2 v hv⟩
  · intro h
    exact ⟨⟨h.num, h.odd⟩, fun r hr => ⟨⟨⟨(h.len r hr).1, (h.len r hr).2⟩, h.same r hr⟩, fun v hv => h.val r hr v hv⟩⟩
theorem scell_in (seed : Int) (key : ByteArray) (i : Int) (n : Nat) (h : 1 ≤ n) : 0 ≤ scell seed key i n ∧ scell seed key i n < n := hcell_range _ _ _ (by omega)
theorem ssign_or (seed : Int) (key : ByteArray) (i : Int) : ssign seed key i = 1 ∨ ssign seed key i = -1 := hsign_or _ _
theorem ssign_sq (seed : Int) (key : ByteArray) (i : Int) : ssign seed key i * ssign seed key i = 1 := by
  rcases ssign_or seed key i with h | h <;> rw [h] <;> rfl
theorem ssign_mul (seed : Int) (key : ByteArray) (i n : Int) : ssign seed key i * n = n ∨ ssign seed key i * n = -n := by
  rcases ssign_or seed key i with h | h <;> rw [h] <;> omega

/-! Add -/
theorem new_eq {rows : List (List Int)} (h : OkRows rows) (seed : Int) (key : ByteArray) (n : Int) (hn : -1099511627776 ≤ n ∧ n ≤ 1099511627776) (i : Int) (r : List Int) (hr : r ∈ rows) :
    signed_Add.new seed key n i r = rd r (scell seed key i r.length) + ssign seed key i * n := by
  have hc := scell_in seed key i r.length (h.len r hr).1
  have hv := h.val r hr _ (rd_mem r _ hc.1 hc.2)
  have hs := ssign_mul seed key i n
  unfold signed_Add.new
  rw [w64_id (x := ssign seed key i * n) (by omega) (by omega), w64_id (by omega) (by omega)]
def addRows (seed : Int) (key : ByteArray) (n : Int) (rows : List (List Int)) : List (List Int) := rows.mapIdx (fun i r => signed_Add.upd seed key n (i : Int) r)
def updFrom (seed : Int) (key : ByteArray) (n : Int) (i : Nat) (rows : List (List Int)) : List (List Int) := rows.mapIdx (fun j r => if j < i then r else signed_Add.upd seed key n (j : Int) r)
theorem updFrom_zero (seed : Int) (key : ByteArray) (n : Int) (rows : List (List Int)) : updFrom seed key n 0 rows = addRows seed key n rows := by
  unfold updFrom addRows; congr 1
theorem updFrom_step (seed : Int) (key : ByteArray) (n : Int) (i : Nat) (rows : List (List Int)) (h : i < rows.length) : updFrom seed key n (i + 1) (rows.set i (signed_Add.upd seed key n (i : Int) rows[i])) = updFrom seed key n i rows := by
  unfold updFrom
  apply List.ext_getElem?
  intro j
  rw [List.getElem?_mapIdx, List.getElem?_mapIdx, List.getElem?_set]
  by_cases e : i = j
  · subst e
    simp [h]
  · rw [if_neg e]
    cases rows[j]? with
    | none => rfl
    | some r =>
      simp only [Option.map_some]
      congr 1
      by_cases c : j < i
      · rw [if_pos c, if_pos (by omega)]
      · rw [if_neg c, if_neg (by omega)]
theorem go_ok (seed : Int) (key : ByteArray) (n : Int) (d : Nat) : ∀ (i : Nat) (rows : List (List Int)), i + d = rows.length → (∀ j, i ≤ j → ∀ (h : j < rows.length), signed_Add.fits (signed_Add.new seed key n (j : Int) rows[j]) = true) →
    signed_Add.go seed key n d i rows = (seed, updFrom seed key n i rows, 0) := by
  induction d with
  | zero =>
    intro i rows hi _
    unfold signed_Add.go
    congr 2
    unfold updFrom
    apply List.ext_getElem?
    intro j
    rw [List.getElem?_mapIdx]
    by_cases c : j < rows.length
    · rw [List.getElem?_eq_getElem c]; simp only [Option.map_some]; rw [if_pos (by omega)]
    · rw [List.getElem?_eq_none (by omega)]; rfl
  | succ d ih =>
    intro i rows hi hf
    have hil : i < rows.length := by omega
    unfold signed_Add.go
    rw [rdL1_get rows i hil, if_pos (hf i (Nat.le_refl _) hil), ih (i + 1) _ (by rw [List.length_set]; omega), updFrom_step seed key n i rows hil]
    intro j hj h
    rw [List.getElem_set_ne (by omega)]
    exact hf j (by omega) (by rw [List.length_set] at h; exact h)
theorem go_bad (seed : Int) (key : ByteArray) (n : Int) (d : Nat) : ∀ (i : Nat) (rows : List (List Int)), i + d = rows.length → (∃ j, i ≤ j ∧ ∃ (h : j < rows.length), signed_Add.fits (signed_Add.new seed key n (j : Int) rows[j]) = false) →
    signed_Add.go seed key n d i rows = (0, [], 5) := by
  induction d with
  | zero => rintro i rows hi ⟨j, hj, h, _⟩; omega
  | succ d ih =>
    rintro i rows hi ⟨j, hj, h, hf⟩
    have hil : i < rows.length := by omega
    unfold signed_Add.go
    rw [rdL1_get rows i hil]
    by_cases c : signed_Add.fits (signed_Add.new seed key n (i : Int) rows[i]) = true
    · rw [if_pos c]
      have hne : j ≠ i := by rintro rfl; rw [hf] at c; cases c
      refine ih (i + 1) _ (by rw [List.length_set]; omega) ⟨j, by omega, by rw [List.length_set]; exact h, ?_⟩
      rw [List.getElem_set_ne (by omega)]
      exact hf
    · rw [if_neg c]
/-- Do all rows stay within what fits? -/
def addFits (seed : Int) (key : ByteArray) (n : Int) (rows : List (List Int)) : Prop := ∀ j, ∀ (h : j < rows.length), signed_Add.fits (signed_Add.new seed key n (j : Int) rows[j]) = true
theorem add_f (seed : Int) (rows : List (List Int)) (key : ByteArray) (n : Int) (h0 : 0 ≤ seed) (h1 : seed < 18446744073709551616) (hs : key.size ≤ 140737488351232) :
    signed_Add.f seed rows key n = (if signed_Right.ok rows = true then (if signed_Add.fits n = true then some (signed_Add.go seed key n rows.length 0 rows) else some (0, [], 1)) else some (0, [], 1)) := by
  unfold signed_Add.f; rw [if_pos ⟨⟨h0, h1⟩, hs⟩]
theorem add_ok {rows : List (List Int)} (h : OkRows rows) (seed : Int) (key : ByteArray) (n : Int) (h0 : 0 ≤ seed) (h1 : seed < 18446744073709551616) (hs : key.size ≤ 140737488351232) (hn : -1099511627776 ≤ n ∧ n ≤ 1099511627776) (hf : addFits seed key n rows) :
    signed_Add.f seed rows key n = some (seed, addRows seed key n rows, 0) := by
  rw [add_f seed rows key n h0 h1 hs, if_pos ((ok_iff rows).2 h), if_pos ((addfits_iff n).2 hn), go_ok seed key n rows.length 0 rows (by omega) (fun j _ hj => hf j hj), updFrom_zero]
theorem add_full {rows : List (List Int)} (h : OkRows rows) (seed : Int) (key : ByteArray) (n : Int) (h0 : 0 ≤ seed) (h1 : seed < 18446744073709551616) (hs : key.size ≤ 140737488351232) (hn : -1099511627776 ≤ n ∧ n ≤ 1099511627776) (hf : ¬ addFits seed key n rows) :
    signed_Add.f seed rows key n = some (0, [], 5) := by
  rw [add_f seed rows key n h0 h1 hs, if_pos ((ok_iff rows).2 h), if_pos ((addfits_iff n).2 hn)]
  congr 1
  refine go_bad seed key n rows.length 0 rows (by omega) ?_
  unfold addFits at hf
  obtain ⟨j, hj⟩ := Classical.not_forall.1 hf
  obtain ⟨hl, hj⟩ := Classical.not_forall.1 hj
  exact ⟨j, Nat.zero_le _, hl, by simpa using hj⟩
theorem add_arg {rows : List (List Int)} (seed : Int) (key : ByteArray) (n : Int) (h0 : 0 ≤ seed) (h1 : seed < 18446744073709551616) (hs : key.size ≤ 140737488351232) (h : ¬ OkRows rows ∨ ¬ (-1099511627776 ≤ n ∧ n ≤ 1099511627776)) :
    signed_Add.f seed rows key n = some (0, [], 1) := by
  rw [add_f seed rows key n h0 h1 hs]
  by_cases c : OkRows rows
  · rw [if_pos ((ok_iff rows).2 c), if_neg (fun e => (h.resolve_left (fun q => q c)) ((addfits_iff n).1 e))]
  · rw [if_neg (fun e => c ((ok_iff rows).1 e))]
theorem addRows_length (seed : Int) (key : ByteArray) (n : Int) (rows : List (List Int)) : (addRows seed key n rows).length = rows.length := by simp [addRows]
theorem addRows_get (seed : Int) (key : ByteArray) (n : Int) (rows : List (List Int)) (i : Nat) (h : i < rows.length) : (addRows seed key n rows)[i]? = some (signed_Add.upd seed key n (i : Int) rows[i]) := by
  unfold addRows; rw [List.getElem?_mapIdx, List.getElem?_eq_getElem h]; rfl
theorem upd_length (seed : Int) (key : ByteArray) (n i : Int) (r : List Int) : (signed_Add.upd seed key n i r).length = r.length := by unfold signed_Add.upd; rw [List.length_set]
theorem addRows_mem {seed : Int} {key : ByteArray} {n : Int} {rows : List (List Int)} {x : List Int} (h : x ∈ addRows seed key n rows) : ∃ i, ∃ (hi : i < rows.length), x = signed_Add.upd seed key n (i : Int) rows[i] := by
  obtain ⟨i, hi, rfl⟩ := List.getElem_of_mem h
  have hi' : i < rows.length := by rw [addRows_length] at hi; exact hi
  refine ⟨i, hi', ?_⟩
  have := addRows_get seed key n rows i hi'
  rw [List.getElem?_eq_getElem hi] at this
  exact Option.some.inj this
theorem addRows_ok {rows : List (List Int)} (h : OkRows rows) (seed : Int) (key : ByteArray) (n : Int) (hf : addFits seed key n rows) : OkRows (addRows seed key n rows) where
  num := by rw [addRows_length]; exact h.num
  odd := by rw [addRows_length]; exact h.odd
  len := by
    intro r hr
    obtain ⟨i, hi, rfl⟩ := addRows_mem hr
    rw [upd_length]; exact h.len _ (List.getElem_mem hi)
  same := by
    have h0 : 0 < rows.length := by have := h.odd; omega
    have hh : ((addRows seed key n rows).headD []).length = (rows.headD []).length := by
      cases rows with
      | nil => simp at h0
      | cons a t => simp [addRows, upd_length]
    intro r hr
    obtain ⟨i, hi, rfl⟩ := addRows_mem hr
    rw [upd_length, hh]; exact h.same _ (List.getElem_mem hi)
  val := by
    intro r hr v hv
    obtain ⟨i, hi, rfl⟩ := addRows_mem hr
    unfold signed_Add.upd at hv
    rcases List.mem_or_eq_of_mem_set hv with h1 | h1
    · exact h.val _ (List.getElem_mem hi) v h1
    · rw [h1]; exact (addfits_iff _).1 (hf i hi)

/-! Get -/
def getL (seed : Int) (key : ByteArray) (rows : List (List Int)) : List Int := rows.mapIdx (fun i r => ssign seed key (i : Int) * rd r (scell seed key (i : Int) r.length))
def srt (l : List Int) : List Int := l.mergeSort fun x y => decide (x ≤ y)
theorem srt_length (l : List Int) : (srt l).length = l.length := List.length_mergeSort l
def med (l : List Int) : Int := rd (srt l) ((l.length / 2 : Nat) : Int)
theorem signed_Get_l0 {rows : List (List Int)} (h : OkRows rows) (seed : Int) (key : ByteArray) (h0 : 0 ≤ seed) (h1 : seed < 18446744073709551616) (hs : key.size ≤ 140737488351232) (d : Nat) : ∀ i : Nat, i + d = rows.length →
    Ev (fun k => signed_Get.l0 k key ((getL seed key rows).take i) rows (rows.length : Int) (i : Int) seed rows) (med (getL seed key rows)) := by
  have hnum := h.num
  have hgl : (getL seed key rows).length = rows.length := by simp [getL]
  induction d with
  | zero =>
    intro i hi
    have htk : (getL seed key rows).take i = getL seed key rows := List.take_of_length_le (by omega)
    rw [htk]
    refine Ev.step (f := fun _ => some (med (getL seed key rows))) (fun k => ?_) (Ev.now _)
    have hs : slices_Sort_int_int.f (getL seed key rows) = some (srt (getL seed key rows)) := by
      unfold slices_Sort_int_int.f srt; rw [if_pos (by omega)]
    have hodd := h.odd
    simp only [signed_Get.l0]
    rw [if_neg (by omega), hs, Option.bind_some]
    rw [hgl, show (rows.length : Int) / 2 = ((rows.length / 2 : Nat) : Int) by omega, w64_id (by omega) (by omega), if_pos (by omega), if_pos (by omega)]
    unfold med
    rw [hgl]
  | succ d ih =>
    intro i hi
    have hil : i < rows.length := by omega
    have hr := h.len _ (List.getElem_mem hil)
    have hc := scell_in seed key (i : Int) rows[i].length hr.1
    have hv := h.val _ (List.getElem_mem hil) _ (rd_mem rows[i] _ hc.1 hc.2)
    have hm := ssign_mul seed key (i : Int) (rd rows[i] (scell seed key (i : Int) rows[i].length))
    have hp := signed_place_ev seed rows key (i : Int) h0 h1 hs (by omega) (by omega) (by omega) (by rw [rdL1_get rows i hil]; omega)
    rw [rdL1_get rows i hil] at hp
    have hnx := ih (i + 1) (by omega)
    rw [show ((i + 1 : Nat) : Int) = (i : Int) + 1 from Int.natCast_succ i] at hnx
    have htk : (getL seed key rows).take (i + 1) = (getL seed key rows).take i ++ [ssign seed key (i : Int) * rd rows[i] (scell seed key (i : Int) rows[i].length)] := by
      rw [List.take_succ_eq_append_getElem (by omega)]
      congr 2
      simp [getL]
    rw [htk] at hnx
    refine Ev.step (f := fun k => (signed_place.f k seed rows key (i : Int)).bind fun bt164 => (if 0 ≤ bt164.1 then (if bt164.1 < ((rd_L1 rows (i : Int)).length : Int) then (if ((getL seed key rows).take i).length < 17592186044416 then (signed_Get.l0 k key (((getL seed key rows).take i) ++ [wrap64 (bt164.2 * (rd (rd_L1 rows (i : Int)) bt164.1))]) rows (rows.length : Int) (wrap64 ((i : Int) + 1)) seed rows) else (none)) else (none)) else (none))) (fun k => ?_) (Ev.bind hp ?_)
    · simp only [signed_Get.l0]
      rw [if_pos (by omega), if_pos (by omega), if_pos (by omega)]
    · simp only
      rw [rdL1_get rows i hil, w64_id (x := ssign seed key (i : Int) * _) (by omega) (by omega), w64_id (x := (i : Int) + 1) (by omega) (by omega)]
      have hq : (List.take i (getL seed key rows)).length < 17592186044416 := by rw [List.length_take]; omega
      simp only [if_pos hc.1, if_pos hc.2, if_pos hq]
      exact hnx
theorem signed_Get_ev {rows : List (List Int)} (h : OkRows rows) (seed : Int) (key : ByteArray) (h0 : 0 ≤ seed) (h1 : seed < 18446744073709551616) (hs : key.size ≤ 140737488351232) : Ev (fun k => signed_Get.f k seed rows key) (med (getL seed key rows)) := by
  have hg := signed_Get_l0 h seed key h0 h1 hs rows.length 0 (by omega)
  rw [List.take_zero] at hg
  refine Ev.congr (fun k => ?_) hg
  unfold signed_Get.f signed_Right.f
  simp only [Option.bind_some]
  rw [if_pos ((ok_iff rows).2 h)]
  rfl
theorem signed_Get_none {rows : List (List Int)} (h : ¬ OkRows rows) (seed : Int) (key : ByteArray) : Ev (fun k => signed_Get.f k seed rows key) 0 := by
  refine Ev.congr (fun k => ?_) (Ev.now 0)
  unfold signed_Get.f signed_Right.f
  simp only [Option.bind_some]
  rw [if_neg (fun e => h ((ok_iff rows).1 e))]

/-! New -/
def newOk (rows cols : Int) : Prop := 1 ≤ rows ∧ rows ≤ 7 ∧ rows % 2 = 1 ∧ 1 ≤ cols ∧ cols ≤ 256
theorem signed_New_l0 (seed cols : Int) (n : Nat) (hn : n ≤ 7) (hc0 : 1 ≤ cols) (hc1 : cols ≤ 256) (d : Nat) : ∀ i : Nat, i + d = n →
    Ev (fun k => signed_New.l0 k cols (n : Int) (i : Int) seed (List.replicate i (List.replicate cols.toNat 0))) (seed, List.replicate n (List.replicate cols.toNat 0), 0) := by
  induction d with
  | zero =>
    intro i hi
    have hin : i = n := by omega
    subst hin
    refine Ev.step (f := fun _ => some (seed, List.replicate i (List.replicate cols.toNat 0), 0)) (fun k => ?_) (Ev.now _)
    simp only [signed_New.l0]
    rw [if_neg (by omega)]
  | succ d ih =>
    intro i hi
    refine Ev.step (fun k => ?_) (ih (i + 1) (by omega))
    simp only [signed_New.l0]
    rw [if_pos (by omega), if_pos (by omega), if_pos (by omega), if_pos (by rw [List.length_replicate]; omega), w64_id (by omega) (by omega), List.replicate_succ']
    rfl
theorem signed_New_ev (seed rows cols : Int) (h : newOk rows cols) : Ev (fun k => signed_New.f k seed rows cols) (seed, List.replicate rows.toNat (List.replicate cols.toNat 0), 0) := by
  obtain ⟨a, b, c, d, e⟩ := h
  have hl := signed_New_l0 seed cols rows.toNat (by omega) d e rows.toNat 0 (by omega)
  refine Ev.congr (f := fun k => signed_New.j0 k seed rows cols false) (fun k => ?_) (Ev.step (f := fun k => signed_New.l0 k cols (rows.toNat : Int) ((0 : Nat) : Int) seed (List.replicate 0 (List.replicate cols.toNat 0))) (fun k => ?_) hl)
  · unfold signed_New.f
    rw [if_neg (by omega), if_neg (by omega), if_neg (by rw [Int.tmod_eq_emod_of_nonneg (by omega)]; omega), if_neg (by omega)]
    rw [decide_eq_false (by omega)]
  · simp only [signed_New.j0]
    rw [if_neg (by simp), show (rows.toNat : Int) = rows by omega]
    rfl
theorem signed_New_arg (seed rows cols : Int) (h : ¬ newOk rows cols) : Ev (fun k => signed_New.f k seed rows cols) (0, [], 1) := by
  have hj : Ev (fun k => signed_New.j0 k seed rows cols true) (0, [], 1) := Ev.step (f := fun _ => some (0, [], 1)) (fun k => by simp only [signed_New.j0]; rw [if_pos trivial]) (Ev.now _)
  refine Ev.congr (fun k => ?_) hj
  unfold signed_New.f
  by_cases a : rows < 1
  · rw [if_pos a]
  rw [if_neg a]
  by_cases b : rows > 7
  · rw [if_pos b]
  rw [if_neg b]
  by_cases c : Int.tmod rows 2 = 0
  · rw [if_pos c]
  rw [if_neg c]
  rw [Int.tmod_eq_emod_of_nonneg (by omega)] at c
  by_cases d : cols < 1
  · rw [if_pos d]
  rw [if_neg d]
  have e : cols > 256 := by
    unfold newOk at h; omega
  rw [decide_eq_true e]
theorem new_okRows (rows cols : Int) (h : newOk rows cols) : OkRows (List.replicate rows.toNat (List.replicate cols.toNat (0 : Int))) := by
  obtain ⟨a, b, c, d, e⟩ := h
  have hm : ∀ r ∈ List.replicate rows.toNat (List.replicate cols.toNat (0 : Int)), r = List.replicate cols.toNat 0 := fun r hr => List.eq_of_mem_replicate hr
  refine ⟨by rw [List.length_replicate]; omega, by rw [List.length_replicate]; omega, fun r hr => ?_, fun r hr => ?_, fun r hr v hv => ?_⟩
  · rw [hm r hr, List.length_replicate]; omega
  · rw [hm r hr]
    obtain ⟨m, hm⟩ : ∃ m, rows.toNat = m + 1 := ⟨rows.toNat - 1, by omega⟩
    rw [hm]; rfl
  · rw [hm r hr] at hv
    rw [List.eq_of_mem_replicate hv]; omega
end Go.Proofs.Yteaeigpeaneicaa.G
end

section
-- Printed by gprint.py: a program of this session over the kit's print. Not trusted: Lean checks it.
namespace Go.Proofs.Yteaeigpeaneicaa.G
open Go.RowKit Go.Proofs.YteaeigpeaneicaaW.PrintWords Go.Proofs.YteaeigpeaneicaaW.PrintLast Go.Proofs.YteaeigpeaneicaaW.PrintMore
attribute [local go_sem] max2_int min2_int max_two min_two max_three min_three max_four min_four   -- for this text's walks alone
set_option linter.unusedVariables false
set_option linter.unusedSimpArgs false

/-! ### rillmeterlaw12_awake: function 12 -/
def rillmeterlaw12_awake.f (k : Nat)  : Option (Bool) := (signed_New.f k 1 3 8).bind fun bt172 => ((signed_Add.f bt172.1 bt172.2.1 (⟨#[97]⟩ : ByteArray) 5).bind fun bt178 => ((signed_Add.f bt178.1 bt178.2.1 (⟨#[97]⟩ : ByteArray) (-2)).bind fun bt183 => (if bt172.2.2 = 0 then (if bt178.2.2 = 0 then (if bt183.2.2 = 0 then ((signed_Get.f k bt183.1 bt183.2.1 (⟨#[97]⟩ : ByteArray)).bind fun t188 => (some (t188 == 3))) else (some false)) else (some false)) else (some false))))
theorem rillmeterlaw12_awake.mono : ∀ k, LeO (rillmeterlaw12_awake.f k ) (rillmeterlaw12_awake.f (k + 1) ) := by
 intro  k
 unfold rillmeterlaw12_awake.f
 repeat' first
   | (with_reducible exact signed_Get.mono _ _ _ _)
   | (with_reducible exact signed_New.mono _ _ _ _)
   | (with_reducible exact LeO.refl _)
   | (with_reducible exact LeO.none _)
   | (with_reducible refine LeO.ite ?_ ?_)
   | (with_reducible refine LeO.bind ?_ (fun _ => ?_))
   | exact signed_Get.mono _ _ _ _
   | exact signed_New.mono _ _ _ _
   | exact LeO.none _
   | refine LeO.ite ?_ ?_
   | refine LeO.bind ?_ (fun _ => ?_)
set_option maxHeartbeats 8000000 in
set_option maxRecDepth 100000 in
theorem rillmeterlaw12_awake.calls (k : Nat)  (r : Bool) (w : World) (h : rillmeterlaw12_awake.f k  = some r) :
  Calls Try.prog 12 #[] w fun e w' => e = .returned (.bool r) ∧ Below w.heap.size w w' := by
 have hu25 := Try.underlying25
 have HB := Aside0.mk (Below.refl w.heap.size w)
 have H : ((signed_New.f k 1 3 8).bind fun bt172 => ((signed_Add.f bt172.1 bt172.2.1 (⟨#[97]⟩ : ByteArray) 5).bind fun bt178 => ((signed_Add.f bt178.1 bt178.2.1 (⟨#[97]⟩ : ByteArray) (-2)).bind fun bt183 => (if bt172.2.2 = 0 then (if bt178.2.2 = 0 then (if bt183.2.2 = 0 then ((signed_Get.f k bt183.1 bt183.2.1 (⟨#[97]⟩ : ByteArray)).bind fun t188 => (some (t188 == 3))) else (some false)) else (some false)) else (some false))))) = some r := h
 clear h
 replace H := Option.bind_eq_some_iff.mp H
 obtain ⟨⟨t172, t173, t176⟩, A10, H⟩ := H
 replace H : ((signed_Add.f t172 t173 (⟨#[97]⟩ : ByteArray) 5).bind fun bt178 => ((signed_Add.f bt178.1 bt178.2.1 (⟨#[97]⟩ : ByteArray) (-2)).bind fun bt183 => (if t176 = 0 then (if bt178.2.2 = 0 then (if bt183.2.2 = 0 then ((signed_Get.f k bt183.1 bt183.2.1 (⟨#[97]⟩ : ByteArray)).bind fun t188 => (some (t188 == 3))) else (some false)) else (some false)) else (some false)))) = some r := H
 have A1 := Aside0.mk A10
 clear A10
 replace H := Option.bind_eq_some_iff.mp H
 obtain ⟨⟨t178, t179, t182⟩, A20, H⟩ := H
 replace H : ((signed_Add.f t178 t179 (⟨#[97]⟩ : ByteArray) (-2)).bind fun bt183 => (if t176 = 0 then (if t182 = 0 then (if bt183.2.2 = 0 then ((signed_Get.f k bt183.1 bt183.2.1 (⟨#[97]⟩ : ByteArray)).bind fun t188 => (some (t188 == 3))) else (some false)) else (some false)) else (some false))) = some r := H
 have A2 := Aside0.mk A20
 clear A20
 replace H := Option.bind_eq_some_iff.mp H
 obtain ⟨⟨t183, t184, t187⟩, A30, H⟩ := H
 replace H : (if t176 = 0 then (if t182 = 0 then (if t187 = 0 then ((signed_Get.f k t183 t184 (⟨#[97]⟩ : ByteArray)).bind fun t188 => (some (t188 == 3))) else (some false)) else (some false)) else (some false)) = some r := H
 have A3 := Aside0.mk A30
 clear A30
 by_cases c4 : t176 = 0
 ·
  rw [if_pos c4] at H
  have c4b0 : (t176 == 0) = true := beq_iff_eq.mpr c4
  have c4b1 : (t176 != 0) = false := bne_eq_false_iff_eq.mpr c4
  clear c4
  by_cases c5 : t182 = 0
  ·
   rw [if_pos c5] at H
   have c5b0 : (t182 == 0) = true := beq_iff_eq.mpr c5
   have c5b1 : (t182 != 0) = false := bne_eq_false_iff_eq.mpr c5
   clear c5
   by_cases c6 : t187 = 0
   ·
    rw [if_pos c6] at H
    have c6b0 : (t187 == 0) = true := beq_iff_eq.mpr c6
    have c6b1 : (t187 != 0) = false := bne_eq_false_iff_eq.mpr c6
    clear c6
    replace H := Option.bind_eq_some_iff.mp H
    obtain ⟨t188, A70, H⟩ := H
    replace H : (some (t188 == 3)) = some r := H
    have A7 := Aside0.mk A70
    clear A70
    obtain rfl := Option.some.inj H
    go_enter Try.func12, Try.ntmps12
    go_wp2_with (first | ((with_reducible refine gate_callee (f := 9) rfl ?_); refine goesM_ (some 6) Try.func9 #[.int .u64 1, .int .i64 3, .int .i64 8] ?_; (with_reducible refine (signed_New.calls k 1 3 8 t172 t173 t176 _ A1.out).mono ?_); rintro e w8 ⟨v174, rfl, ho0, hb⟩; refine ⟨_, rfl, ?_⟩; have HO175 := Aside0.mk (Kd.S_lower ho0 (below_size (pH HB))); replace HB := stB HB hb; (try clear hb); (try clear hb2); (try clear hk); (try clear hi); (try clear ho0)) | ((with_reducible refine gate_dst (N := 1) rfl ?_); refine box_event ?hg (N := 1) ?hd (cs := #[.int .u64 0, .slice none 0 0]) (t := 25) ?hr ?_; (case hd => rfl); (case hg => rfl); (case hr => first | (go_simp; done) | (go_simp; rfl)); intro gb177 hg w9 hbox hb; have BK177 := Aside0.mk (hbox); have GW177 := geN HB hg; have GE177 := geN HB hg; replace HO175 := Aside0.mk (Kd.S_below (pS HO175) hb); replace HB := stB HB hb; clear hb hbox hg; have hcz10_0 : w9.cell? ⟨gb177, 0, none⟩ = some (.int .u64 0) := (blk_cell BK177.out 0).trans rfl; have hcz10_1 : w9.cell? ⟨gb177, 1, none⟩ = some (.slice none 0 0) := (blk_cell BK177.out 1).trans rfl; have hfz10_0 := blk_frozen BK177.out 0; have hfz10_1 := blk_frozen BK177.out 1; obtain ⟨Ao11, co11, eo11⟩ := Kd.S_slice HO175.out; subst eo11) | ((with_reducible refine gate_callee (f := 15) rfl ?_); refine goesM_ (some 11) Try.func15 #[.agg #[.int .u64 t172, .slice Ao11 t173.length co11], .string (⟨#[97]⟩ : ByteArray), .int .i64 5] ?_; (with_reducible refine (signed_Add.calls t172 _ _ t173 (⟨#[97]⟩ : ByteArray) 5 t178 t179 t182 _ ?side1 ?side2 A2.out).mono ?_); (case side1 => refine (Kd.S_reads' (e := 33) (base := w.heap.size) (ok := fun k_ => True) (n := t173.length) (c := co11) ?_).2.2; exact (by (with_reducible repeat (first | apply Kd.S_alloc | apply Kd.S_drewN | apply Kd.S_drew)); exact (Kd.S_mono (Kd.S_far (p := ⟨gb177, 1, none⟩) (Kd.S_far (p := ⟨gb177, 0, none⟩) (Kd.S_types HO175.out BK177.out (by decide)) (fun _ hk => hk.2) (.int .u64 t172)) (fun _ hk => hk.2) (.slice Ao11 t173.length co11)) (fun _ h_ => h_.1)))); (case side2 => exact (Kd.S_reads' HO175.out).2.1); rintro e w12 ⟨v180, rfl, ho0, hb⟩; refine ⟨_, rfl, ?_⟩; have HO181 := Aside0.mk (Kd.S_lower (Kd.S_new' ho0 (Kd.S_lt (by (with_reducible repeat (first | apply Kd.S_alloc | apply Kd.S_drewN | apply Kd.S_drew)); exact (Kd.S_mono (Kd.S_far (p := ⟨gb177, 1, none⟩) (Kd.S_far (p := ⟨gb177, 0, none⟩) (Kd.S_types HO175.out BK177.out (by decide)) (fun _ hk => hk.2) (.int .u64 t172)) (fun _ hk => hk.2) (.slice Ao11 t173.length co11)) (fun _ h_ => h_.1))))) (below_size (pH HB))); replace HO175 := Aside0.mk (Kd.S_elder' (by (with_reducible repeat (first | apply Kd.S_alloc | apply Kd.S_drewN | apply Kd.S_drew)); exact (Kd.S_mono (Kd.S_far (p := ⟨gb177, 1, none⟩) (Kd.S_far (p := ⟨gb177, 0, none⟩) (Kd.S_types HO175.out BK177.out (by decide)) (fun _ hk => hk.2) (.int .u64 t172)) (fun _ hk => hk.2) (.slice Ao11 t173.length co11)) (fun _ h_ => h_.1))) (Kd.S_base ho0) hb); replace BK177 := Aside0.mk (blk_below (g := gb177) (o := .cells #[.int .u64 t172, .slice Ao11 t173.length co11] 25 (0, 0)) (by (with_reducible repeat (first | refine blk_drewN ?_ _ | refine blk_drew ?_ | refine blk_alloc ?_ _)); refine blk_put (cs := #[.int .u64 t172, .slice none 0 0]) ?_ 1 _ rfl; (with_reducible repeat (first | refine blk_drewN ?_ _ | refine blk_drew ?_ | refine blk_alloc ?_ _)); refine blk_put (cs := #[.int .u64 0, .slice none 0 0]) ?_ 0 _ rfl; (with_reducible repeat (first | refine blk_drewN ?_ _ | refine blk_drew ?_ | refine blk_alloc ?_ _)); exact BK177.out) hb); replace HB := stB HB hb; (try clear hb); (try clear hb2); (try clear hk); (try clear hi); (try clear ho0); have hcz13_0 : w12.cell? ⟨gb177, 0, none⟩ = some (.int .u64 t172) := (blk_cell BK177.out 0).trans rfl; have hcz13_1 : w12.cell? ⟨gb177, 1, none⟩ = some (.slice Ao11 t173.length co11) := (blk_cell BK177.out 1).trans rfl; have hfz13_0 := blk_frozen BK177.out 0; have hfz13_1 := blk_frozen BK177.out 1; obtain ⟨Ao14, co14, eo14⟩ := Kd.S_slice HO181.out; subst eo14) | ((with_reducible refine gate_callee (f := 15) rfl ?_); refine goesM_ (some 16) Try.func15 #[.agg #[.int .u64 t178, .slice Ao14 t179.length co14], .string (⟨#[97]⟩ : ByteArray), .int .i64 (-2)] ?_; (with_reducible refine (signed_Add.calls t178 _ _ t179 (⟨#[97]⟩ : ByteArray) (-2) t183 t184 t187 _ ?side1 ?side2 A3.out).mono ?_); (case side1 => refine (Kd.S_reads' (e := 33) (base := w.heap.size) (ok := fun k_ => (True ∧ some k_ ≠ (.slice Ao11 t173.length co11 : Value).ownBlock)) (n := t179.length) (c := co14) ?_).2.2; exact (by (with_reducible repeat (first | apply Kd.S_alloc | apply Kd.S_drewN | apply Kd.S_drew)); exact (Kd.S_mono (Kd.S_far (p := ⟨gb177, 1, none⟩) (Kd.S_far (p := ⟨gb177, 0, none⟩) (Kd.S_types HO181.out BK177.out (by decide)) (fun _ hk => hk.2) (.int .u64 t178)) (fun _ hk => hk.2) (.slice Ao14 t179.length co14)) (fun _ h_ => h_.1)))); (case side2 => exact (Kd.S_reads' HO181.out).2.1); rintro e w15 ⟨v185, rfl, ho0, hb⟩; refine ⟨_, rfl, ?_⟩; have HO186 := Aside0.mk (Kd.S_lower (Kd.S_new' (Kd.S_new' ho0 (Kd.S_lt (by (with_reducible repeat (first | apply Kd.S_alloc | apply Kd.S_drewN | apply Kd.S_drew)); exact (Kd.S_mono (Kd.S_far (p := ⟨gb177, 1, none⟩) (Kd.S_far (p := ⟨gb177, 0, none⟩) (Kd.S_types HO175.out BK177.out (by decide)) (fun _ hk => hk.2) (.int .u64 t178)) (fun _ hk => hk.2) (.slice Ao14 t179.length co14)) (fun _ h_ => h_.1))))) (Kd.S_lt (by (with_reducible repeat (first | apply Kd.S_alloc | apply Kd.S_drewN | apply Kd.S_drew)); exact (Kd.S_mono (Kd.S_far (p := ⟨gb177, 1, none⟩) (Kd.S_far (p := ⟨gb177, 0, none⟩) (Kd.S_types HO181.out BK177.out (by decide)) (fun _ hk => hk.2) (.int .u64 t178)) (fun _ hk => hk.2) (.slice Ao14 t179.length co14)) (fun _ h_ => h_.1))))) (below_size (pH HB))); replace HO175 := Aside0.mk (Kd.S_elder' (by (with_reducible repeat (first | apply Kd.S_alloc | apply Kd.S_drewN | apply Kd.S_drew)); exact (Kd.S_mono (Kd.S_far (p := ⟨gb177, 1, none⟩) (Kd.S_far (p := ⟨gb177, 0, none⟩) (Kd.S_types HO175.out BK177.out (by decide)) (fun _ hk => hk.2) (.int .u64 t178)) (fun _ hk => hk.2) (.slice Ao14 t179.length co14)) (fun _ h_ => h_.1))) (Kd.S_base ho0) hb); replace HO181 := Aside0.mk (Kd.S_elder' (by (with_reducible repeat (first | apply Kd.S_alloc | apply Kd.S_drewN | apply Kd.S_drew)); exact (Kd.S_mono (Kd.S_far (p := ⟨gb177, 1, none⟩) (Kd.S_far (p := ⟨gb177, 0, none⟩) (Kd.S_types HO181.out BK177.out (by decide)) (fun _ hk => hk.2) (.int .u64 t178)) (fun _ hk => hk.2) (.slice Ao14 t179.length co14)) (fun _ h_ => h_.1))) (Kd.S_base ho0) hb); replace BK177 := Aside0.mk (blk_below (g := gb177) (o := .cells #[.int .u64 t178, .slice Ao14 t179.length co14] 25 (0, 0)) (by (with_reducible repeat (first | refine blk_drewN ?_ _ | refine blk_drew ?_ | refine blk_alloc ?_ _)); refine blk_put (cs := #[.int .u64 t178, .slice Ao11 t173.length co11]) ?_ 1 _ rfl; (with_reducible repeat (first | refine blk_drewN ?_ _ | refine blk_drew ?_ | refine blk_alloc ?_ _)); refine blk_put (cs := #[.int .u64 t172, .slice Ao11 t173.length co11]) ?_ 0 _ rfl; (with_reducible repeat (first | refine blk_drewN ?_ _ | refine blk_drew ?_ | refine blk_alloc ?_ _)); exact BK177.out) hb); replace HB := stB HB hb; (try clear hb); (try clear hb2); (try clear hk); (try clear hi); (try clear ho0); have hcz16_0 : w15.cell? ⟨gb177, 0, none⟩ = some (.int .u64 t178) := (blk_cell BK177.out 0).trans rfl; have hcz16_1 : w15.cell? ⟨gb177, 1, none⟩ = some (.slice Ao14 t179.length co14) := (blk_cell BK177.out 1).trans rfl; have hfz16_0 := blk_frozen BK177.out 0; have hfz16_1 := blk_frozen BK177.out 1; obtain ⟨Ao17, co17, eo17⟩ := Kd.S_slice HO186.out; subst eo17) | (go_at_call 16; (with_reducible refine (signed_Get.calls k t183 _ _ t184 (⟨#[97]⟩ : ByteArray) t188 _ ?side1 ?side2 A7.out).mono ?_); (case side1 => refine (Kd.S_reads' (e := 33) (base := w.heap.size) (ok := fun k_ => ((True ∧ some k_ ≠ (.slice Ao11 t173.length co11 : Value).ownBlock) ∧ some k_ ≠ (.slice Ao14 t179.length co14 : Value).ownBlock)) (n := t184.length) (c := co17) ?_).2.2; exact (by (with_reducible repeat (first | apply Kd.S_alloc | apply Kd.S_drewN | apply Kd.S_drew)); exact (Kd.S_mono (Kd.S_far (p := ⟨gb177, 1, none⟩) (Kd.S_far (p := ⟨gb177, 0, none⟩) (Kd.S_types HO186.out BK177.out (by decide)) (fun _ hk => hk.2) (.int .u64 t183)) (fun _ hk => hk.2) (.slice Ao17 t184.length co17)) (fun _ h_ => h_.1)))); (case side2 => exact (Kd.S_reads' HO186.out).2.1); rintro e w18 ⟨rfl, hb⟩; replace HO175 := Aside0.mk (Kd.S_below (by (with_reducible repeat (first | apply Kd.S_alloc | apply Kd.S_drewN | apply Kd.S_drew)); exact (Kd.S_mono (Kd.S_far (p := ⟨gb177, 1, none⟩) (Kd.S_far (p := ⟨gb177, 0, none⟩) (Kd.S_types HO175.out BK177.out (by decide)) (fun _ hk => hk.2) (.int .u64 t183)) (fun _ hk => hk.2) (.slice Ao17 t184.length co17)) (fun _ h_ => h_.1))) hb); replace HO181 := Aside0.mk (Kd.S_below (by (with_reducible repeat (first | apply Kd.S_alloc | apply Kd.S_drewN | apply Kd.S_drew)); exact (Kd.S_mono (Kd.S_far (p := ⟨gb177, 1, none⟩) (Kd.S_far (p := ⟨gb177, 0, none⟩) (Kd.S_types HO181.out BK177.out (by decide)) (fun _ hk => hk.2) (.int .u64 t183)) (fun _ hk => hk.2) (.slice Ao17 t184.length co17)) (fun _ h_ => h_.1))) hb); replace HO186 := Aside0.mk (Kd.S_below (by (with_reducible repeat (first | apply Kd.S_alloc | apply Kd.S_drewN | apply Kd.S_drew)); exact (Kd.S_mono (Kd.S_far (p := ⟨gb177, 1, none⟩) (Kd.S_far (p := ⟨gb177, 0, none⟩) (Kd.S_types HO186.out BK177.out (by decide)) (fun _ hk => hk.2) (.int .u64 t183)) (fun _ hk => hk.2) (.slice Ao17 t184.length co17)) (fun _ h_ => h_.1))) hb); replace BK177 := Aside0.mk (blk_below (g := gb177) (o := .cells #[.int .u64 t183, .slice Ao17 t184.length co17] 25 (0, 0)) (by (with_reducible repeat (first | refine blk_drewN ?_ _ | refine blk_drew ?_ | refine blk_alloc ?_ _)); refine blk_put (cs := #[.int .u64 t183, .slice Ao14 t179.length co14]) ?_ 1 _ rfl; (with_reducible repeat (first | refine blk_drewN ?_ _ | refine blk_drew ?_ | refine blk_alloc ?_ _)); refine blk_put (cs := #[.int .u64 t178, .slice Ao14 t179.length co14]) ?_ 0 _ rfl; (with_reducible repeat (first | refine blk_drewN ?_ _ | refine blk_drew ?_ | refine blk_alloc ?_ _)); exact BK177.out) hb); replace HB := stB HB hb; (try clear hb); (try clear hb2); (try clear hk); (try clear hi)))
    go_ret
    exact ⟨by first | rfl | (simp [errW_none, errW_some] <;> rfl) | (simp [*, errW_none, errW_some] <;> rfl), by repeat (first | (with_reducible first | exact HB.out | apply below_alloc | apply pw_below_drewN | apply below_drew1 | refine below_set ?_ GE177.out) | exact HB.out)⟩
   ·
    rw [if_neg c6] at H
    have c6b0 : (t187 == 0) = false := beq_eq_false_iff_ne.mpr c6
    have c6b1 : (t187 != 0) = true := bne_iff_ne.mpr c6
    obtain rfl := Option.some.inj H
    go_enter Try.func12, Try.ntmps12
    go_wp2_with (first | ((with_reducible refine gate_callee (f := 9) rfl ?_); refine goesM_ (some 6) Try.func9 #[.int .u64 1, .int .i64 3, .int .i64 8] ?_; (with_reducible refine (signed_New.calls k 1 3 8 t172 t173 t176 _ A1.out).mono ?_); rintro e w19 ⟨v174, rfl, ho0, hb⟩; refine ⟨_, rfl, ?_⟩; have HO175 := Aside0.mk (Kd.S_lower ho0 (below_size (pH HB))); replace HB := stB HB hb; (try clear hb); (try clear hb2); (try clear hk); (try clear hi); (try clear ho0)) | ((with_reducible refine gate_dst (N := 1) rfl ?_); refine box_event ?hg (N := 1) ?hd (cs := #[.int .u64 0, .slice none 0 0]) (t := 25) ?hr ?_; (case hd => rfl); (case hg => rfl); (case hr => first | (go_simp; done) | (go_simp; rfl)); intro gb177 hg w20 hbox hb; have BK177 := Aside0.mk (hbox); have GW177 := geN HB hg; have GE177 := geN HB hg; replace HO175 := Aside0.mk (Kd.S_below (pS HO175) hb); replace HB := stB HB hb; clear hb hbox hg; have hcz21_0 : w20.cell? ⟨gb177, 0, none⟩ = some (.int .u64 0) := (blk_cell BK177.out 0).trans rfl; have hcz21_1 : w20.cell? ⟨gb177, 1, none⟩ = some (.slice none 0 0) := (blk_cell BK177.out 1).trans rfl; have hfz21_0 := blk_frozen BK177.out 0; have hfz21_1 := blk_frozen BK177.out 1; obtain ⟨Ao22, co22, eo22⟩ := Kd.S_slice HO175.out; subst eo22) | ((with_reducible refine gate_callee (f := 15) rfl ?_); refine goesM_ (some 11) Try.func15 #[.agg #[.int .u64 t172, .slice Ao22 t173.length co22], .string (⟨#[97]⟩ : ByteArray), .int .i64 5] ?_; (with_reducible refine (signed_Add.calls t172 _ _ t173 (⟨#[97]⟩ : ByteArray) 5 t178 t179 t182 _ ?side1 ?side2 A2.out).mono ?_); (case side1 => refine (Kd.S_reads' (e := 33) (base := w.heap.size) (ok := fun k_ => True) (n := t173.length) (c := co22) ?_).2.2; exact (by (with_reducible repeat (first | apply Kd.S_alloc | apply Kd.S_drewN | apply Kd.S_drew)); exact (Kd.S_mono (Kd.S_far (p := ⟨gb177, 1, none⟩) (Kd.S_far (p := ⟨gb177, 0, none⟩) (Kd.S_types HO175.out BK177.out (by decide)) (fun _ hk => hk.2) (.int .u64 t172)) (fun _ hk => hk.2) (.slice Ao22 t173.length co22)) (fun _ h_ => h_.1)))); (case side2 => exact (Kd.S_reads' HO175.out).2.1); rintro e w23 ⟨v180, rfl, ho0, hb⟩; refine ⟨_, rfl, ?_⟩; have HO181 := Aside0.mk (Kd.S_lower (Kd.S_new' ho0 (Kd.S_lt (by (with_reducible repeat (first | apply Kd.S_alloc | apply Kd.S_drewN | apply Kd.S_drew)); exact (Kd.S_mono (Kd.S_far (p := ⟨gb177, 1, none⟩) (Kd.S_far (p := ⟨gb177, 0, none⟩) (Kd.S_types HO175.out BK177.out (by decide)) (fun _ hk => hk.2) (.int .u64 t172)) (fun _ hk => hk.2) (.slice Ao22 t173.length co22)) (fun _ h_ => h_.1))))) (below_size (pH HB))); replace HO175 := Aside0.mk (Kd.S_elder' (by (with_reducible repeat (first | apply Kd.S_alloc | apply Kd.S_drewN | apply Kd.S_drew)); exact (Kd.S_mono (Kd.S_far (p := ⟨gb177, 1, none⟩) (Kd.S_far (p := ⟨gb177, 0, none⟩) (Kd.S_types HO175.out BK177.out (by decide)) (fun _ hk => hk.2) (.int .u64 t172)) (fun _ hk => hk.2) (.slice Ao22 t173.length co22)) (fun _ h_ => h_.1))) (Kd.S_base ho0) hb); replace BK177 := Aside0.mk (blk_below (g := gb177) (o := .cells #[.int .u64 t172, .slice Ao22 t173.length co22] 25 (0, 0)) (by (with_reducible repeat (first | refine blk_drewN ?_ _ | refine blk_drew ?_ | refine blk_alloc ?_ _)); refine blk_put (cs := #[.int .u64 t172, .slice none 0 0]) ?_ 1 _ rfl; (with_reducible repeat (first | refine blk_drewN ?_ _ | refine blk_drew ?_ | refine blk_alloc ?_ _)); refine blk_put (cs := #[.int .u64 0, .slice none 0 0]) ?_ 0 _ rfl; (with_reducible repeat (first | refine blk_drewN ?_ _ | refine blk_drew ?_ | refine blk_alloc ?_ _)); exact BK177.out) hb); replace HB := stB HB hb; (try clear hb); (try clear hb2); (try clear hk); (try clear hi); (try clear ho0); have hcz24_0 : w23.cell? ⟨gb177, 0, none⟩ = some (.int .u64 t172) := (blk_cell BK177.out 0).trans rfl; have hcz24_1 : w23.cell? ⟨gb177, 1, none⟩ = some (.slice Ao22 t173.length co22) := (blk_cell BK177.out 1).trans rfl; have hfz24_0 := blk_frozen BK177.out 0; have hfz24_1 := blk_frozen BK177.out 1; obtain ⟨Ao25, co25, eo25⟩ := Kd.S_slice HO181.out; subst eo25) | ((with_reducible refine gate_callee (f := 15) rfl ?_); refine goesM_ (some 16) Try.func15 #[.agg #[.int .u64 t178, .slice Ao25 t179.length co25], .string (⟨#[97]⟩ : ByteArray), .int .i64 (-2)] ?_; (with_reducible refine (signed_Add.calls t178 _ _ t179 (⟨#[97]⟩ : ByteArray) (-2) t183 t184 t187 _ ?side1 ?side2 A3.out).mono ?_); (case side1 => refine (Kd.S_reads' (e := 33) (base := w.heap.size) (ok := fun k_ => (True ∧ some k_ ≠ (.slice Ao22 t173.length co22 : Value).ownBlock)) (n := t179.length) (c := co25) ?_).2.2; exact (by (with_reducible repeat (first | apply Kd.S_alloc | apply Kd.S_drewN | apply Kd.S_drew)); exact (Kd.S_mono (Kd.S_far (p := ⟨gb177, 1, none⟩) (Kd.S_far (p := ⟨gb177, 0, none⟩) (Kd.S_types HO181.out BK177.out (by decide)) (fun _ hk => hk.2) (.int .u64 t178)) (fun _ hk => hk.2) (.slice Ao25 t179.length co25)) (fun _ h_ => h_.1)))); (case side2 => exact (Kd.S_reads' HO181.out).2.1); rintro e w26 ⟨v185, rfl, ho0, hb⟩; refine ⟨_, rfl, ?_⟩; have HO186 := Aside0.mk (Kd.S_lower (Kd.S_new' (Kd.S_new' ho0 (Kd.S_lt (by (with_reducible repeat (first | apply Kd.S_alloc | apply Kd.S_drewN | apply Kd.S_drew)); exact (Kd.S_mono (Kd.S_far (p := ⟨gb177, 1, none⟩) (Kd.S_far (p := ⟨gb177, 0, none⟩) (Kd.S_types HO175.out BK177.out (by decide)) (fun _ hk => hk.2) (.int .u64 t178)) (fun _ hk => hk.2) (.slice Ao25 t179.length co25)) (fun _ h_ => h_.1))))) (Kd.S_lt (by (with_reducible repeat (first | apply Kd.S_alloc | apply Kd.S_drewN | apply Kd.S_drew)); exact (Kd.S_mono (Kd.S_far (p := ⟨gb177, 1, none⟩) (Kd.S_far (p := ⟨gb177, 0, none⟩) (Kd.S_types HO181.out BK177.out (by decide)) (fun _ hk => hk.2) (.int .u64 t178)) (fun _ hk => hk.2) (.slice Ao25 t179.length co25)) (fun _ h_ => h_.1))))) (below_size (pH HB))); replace HO175 := Aside0.mk (Kd.S_elder' (by (with_reducible repeat (first | apply Kd.S_alloc | apply Kd.S_drewN | apply Kd.S_drew)); exact (Kd.S_mono (Kd.S_far (p := ⟨gb177, 1, none⟩) (Kd.S_far (p := ⟨gb177, 0, none⟩) (Kd.S_types HO175.out BK177.out (by decide)) (fun _ hk => hk.2) (.int .u64 t178)) (fun _ hk => hk.2) (.slice Ao25 t179.length co25)) (fun _ h_ => h_.1))) (Kd.S_base ho0) hb); replace HO181 := Aside0.mk (Kd.S_elder' (by (with_reducible repeat (first | apply Kd.S_alloc | apply Kd.S_drewN | apply Kd.S_drew)); exact (Kd.S_mono (Kd.S_far (p := ⟨gb177, 1, none⟩) (Kd.S_far (p := ⟨gb177, 0, none⟩) (Kd.S_types HO181.out BK177.out (by decide)) (fun _ hk => hk.2) (.int .u64 t178)) (fun _ hk => hk.2) (.slice Ao25 t179.length co25)) (fun _ h_ => h_.1))) (Kd.S_base ho0) hb); replace BK177 := Aside0.mk (blk_below (g := gb177) (o := .cells #[.int .u64 t178, .slice Ao25 t179.length co25] 25 (0, 0)) (by (with_reducible repeat (first | refine blk_drewN ?_ _ | refine blk_drew ?_ | refine blk_alloc ?_ _)); refine blk_put (cs := #[.int .u64 t178, .slice Ao22 t173.length co22]) ?_ 1 _ rfl; (with_reducible repeat (first | refine blk_drewN ?_ _ | refine blk_drew ?_ | refine blk_alloc ?_ _)); refine blk_put (cs := #[.int .u64 t172, .slice Ao22 t173.length co22]) ?_ 0 _ rfl; (with_reducible repeat (first | refine blk_drewN ?_ _ | refine blk_drew ?_ | refine blk_alloc ?_ _)); exact BK177.out) hb); replace HB := stB HB hb; (try clear hb); (try clear hb2); (try clear hk); (try clear hi); (try clear ho0); have hcz27_0 : w26.cell? ⟨gb177, 0, none⟩ = some (.int .u64 t178) := (blk_cell BK177.out 0).trans rfl; have hcz27_1 : w26.cell? ⟨gb177, 1, none⟩ = some (.slice Ao25 t179.length co25) := (blk_cell BK177.out 1).trans rfl; have hfz27_0 := blk_frozen BK177.out 0; have hfz27_1 := blk_frozen BK177.out 1; obtain ⟨Ao28, co28, eo28⟩ := Kd.S_slice HO186.out; subst eo28))
    go_ret
    exact ⟨by first | rfl | (simp [errW_none, errW_some] <;> rfl) | (simp [*, errW_none, errW_some] <;> rfl), by repeat (first | (with_reducible first | exact HB.out | apply below_alloc | apply pw_below_drewN | apply below_drew1 | refine below_set ?_ GE177.out) | exact HB.out)⟩
  ·
   rw [if_neg c5] at H
   have c5b0 : (t182 == 0) = false := beq_eq_false_iff_ne.mpr c5
   have c5b1 : (t182 != 0) = true := bne_iff_ne.mpr c5
   obtain rfl := Option.some.inj H
   go_enter Try.func12, Try.ntmps12
   go_wp2_with (first | ((with_reducible refine gate_callee (f := 9) rfl ?_); refine goesM_ (some 6) Try.func9 #[.int .u64 1, .int .i64 3, .int .i64 8] ?_; (with_reducible refine (signed_New.calls k 1 3 8 t172 t173 t176 _ A1.out).mono ?_); rintro e w29 ⟨v174, rfl, ho0, hb⟩; refine ⟨_, rfl, ?_⟩; have HO175 := Aside0.mk (Kd.S_lower ho0 (below_size (pH HB))); replace HB := stB HB hb; (try clear hb); (try clear hb2); (try clear hk); (try clear hi); (try clear ho0)) | ((with_reducible refine gate_dst (N := 1) rfl ?_); refine box_event ?hg (N := 1) ?hd (cs := #[.int .u64 0, .slice none 0 0]) (t := 25) ?hr ?_; (case hd => rfl); (case hg => rfl); (case hr => first | (go_simp; done) | (go_simp; rfl)); intro gb177 hg w30 hbox hb; have BK177 := Aside0.mk (hbox); have GW177 := geN HB hg; have GE177 := geN HB hg; replace HO175 := Aside0.mk (Kd.S_below (pS HO175) hb); replace HB := stB HB hb; clear hb hbox hg; have hcz31_0 : w30.cell? ⟨gb177, 0, none⟩ = some (.int .u64 0) := (blk_cell BK177.out 0).trans rfl; have hcz31_1 : w30.cell? ⟨gb177, 1, none⟩ = some (.slice none 0 0) := (blk_cell BK177.out 1).trans rfl; have hfz31_0 := blk_frozen BK177.out 0; have hfz31_1 := blk_frozen BK177.out 1; obtain ⟨Ao32, co32, eo32⟩ := Kd.S_slice HO175.out; subst eo32) | ((with_reducible refine gate_callee (f := 15) rfl ?_); refine goesM_ (some 11) Try.func15 #[.agg #[.int .u64 t172, .slice Ao32 t173.length co32], .string (⟨#[97]⟩ : ByteArray), .int .i64 5] ?_; (with_reducible refine (signed_Add.calls t172 _ _ t173 (⟨#[97]⟩ : ByteArray) 5 t178 t179 t182 _ ?side1 ?side2 A2.out).mono ?_); (case side1 => refine (Kd.S_reads' (e := 33) (base := w.heap.size) (ok := fun k_ => True) (n := t173.length) (c := co32) ?_).2.2; exact (by (with_reducible repeat (first | apply Kd.S_alloc | apply Kd.S_drewN | apply Kd.S_drew)); exact (Kd.S_mono (Kd.S_far (p := ⟨gb177, 1, none⟩) (Kd.S_far (p := ⟨gb177, 0, none⟩) (Kd.S_types HO175.out BK177.out (by decide)) (fun _ hk => hk.2) (.int .u64 t172)) (fun _ hk => hk.2) (.slice Ao32 t173.length co32)) (fun _ h_ => h_.1)))); (case side2 => exact (Kd.S_reads' HO175.out).2.1); rintro e w33 ⟨v180, rfl, ho0, hb⟩; refine ⟨_, rfl, ?_⟩; have HO181 := Aside0.mk (Kd.S_lower (Kd.S_new' ho0 (Kd.S_lt (by (with_reducible repeat (first | apply Kd.S_alloc | apply Kd.S_drewN | apply Kd.S_drew)); exact (Kd.S_mono (Kd.S_far (p := ⟨gb177, 1, none⟩) (Kd.S_far (p := ⟨gb177, 0, none⟩) (Kd.S_types HO175.out BK177.out (by decide)) (fun _ hk => hk.2) (.int .u64 t172)) (fun _ hk => hk.2) (.slice Ao32 t173.length co32)) (fun _ h_ => h_.1))))) (below_size (pH HB))); replace HO175 := Aside0.mk (Kd.S_elder' (by (with_reducible repeat (first | apply Kd.S_alloc | apply Kd.S_drewN | apply Kd.S_drew)); exact (Kd.S_mono (Kd.S_far (p := ⟨gb177, 1, none⟩) (Kd.S_far (p := ⟨gb177, 0, none⟩) (Kd.S_types HO175.out BK177.out (by decide)) (fun _ hk => hk.2) (.int .u64 t172)) (fun _ hk => hk.2) (.slice Ao32 t173.length co32)) (fun _ h_ => h_.1))) (Kd.S_base ho0) hb); replace BK177 := Aside0.mk (blk_below (g := gb177) (o := .cells #[.int .u64 t172, .slice Ao32 t173.length co32] 25 (0, 0)) (by (with_reducible repeat (first | refine blk_drewN ?_ _ | refine blk_drew ?_ | refine blk_alloc ?_ _)); refine blk_put (cs := #[.int .u64 t172, .slice none 0 0]) ?_ 1 _ rfl; (with_reducible repeat (first | refine blk_drewN ?_ _ | refine blk_drew ?_ | refine blk_alloc ?_ _)); refine blk_put (cs := #[.int .u64 0, .slice none 0 0]) ?_ 0 _ rfl; (with_reducible repeat (first | refine blk_drewN ?_ _ | refine blk_drew ?_ | refine blk_alloc ?_ _)); exact BK177.out) hb); replace HB := stB HB hb; (try clear hb); (try clear hb2); (try clear hk); (try clear hi); (try clear ho0); have hcz34_0 : w33.cell? ⟨gb177, 0, none⟩ = some (.int .u64 t172) := (blk_cell BK177.out 0).trans rfl; have hcz34_1 : w33.cell? ⟨gb177, 1, none⟩ = some (.slice Ao32 t173.length co32) := (blk_cell BK177.out 1).trans rfl; have hfz34_0 := blk_frozen BK177.out 0; have hfz34_1 := blk_frozen BK177.out 1; obtain ⟨Ao35, co35, eo35⟩ := Kd.S_slice HO181.out; subst eo35) | ((with_reducible refine gate_callee (f := 15) rfl ?_); refine goesM_ (some 16) Try.func15 #[.agg #[.int .u64 t178, .slice Ao35 t179.length co35], .string (⟨#[97]⟩ : ByteArray), .int .i64 (-2)] ?_; (with_reducible refine (signed_Add.calls t178 _ _ t179 (⟨#[97]⟩ : ByteArray) (-2) t183 t184 t187 _ ?side1 ?side2 A3.out).mono ?_); (case side1 => refine (Kd.S_reads' (e := 33) (base := w.heap.size) (ok := fun k_ => (True ∧ some k_ ≠ (.slice Ao32 t173.length co32 : Value).ownBlock)) (n := t179.length) (c := co35) ?_).2.2; exact (by (with_reducible repeat (first | apply Kd.S_alloc | apply Kd.S_drewN | apply Kd.S_drew)); exact (Kd.S_mono (Kd.S_far (p := ⟨gb177, 1, none⟩) (Kd.S_far (p := ⟨gb177, 0, none⟩) (Kd.S_types HO181.out BK177.out (by decide)) (fun _ hk => hk.2) (.int .u64 t178)) (fun _ hk => hk.2) (.slice Ao35 t179.length co35)) (fun _ h_ => h_.1)))); (case side2 => exact (Kd.S_reads' HO181.out).2.1); rintro e w36 ⟨v185, rfl, ho0, hb⟩; refine ⟨_, rfl, ?_⟩; have HO186 := Aside0.mk (Kd.S_lower (Kd.S_new' (Kd.S_new' ho0 (Kd.S_lt (by (with_reducible repeat (first | apply Kd.S_alloc | apply Kd.S_drewN | apply Kd.S_drew)); exact (Kd.S_mono (Kd.S_far (p := ⟨gb177, 1, none⟩) (Kd.S_far (p := ⟨gb177, 0, none⟩) (Kd.S_types HO175.out BK177.out (by decide)) (fun _ hk => hk.2) (.int .u64 t178)) (fun _ hk => hk.2) (.slice Ao35 t179.length co35)) (fun _ h_ => h_.1))))) (Kd.S_lt (by (with_reducible repeat (first | apply Kd.S_alloc | apply Kd.S_drewN | apply Kd.S_drew)); exact (Kd.S_mono (Kd.S_far (p := ⟨gb177, 1, none⟩) (Kd.S_far (p := ⟨gb177, 0, none⟩) (Kd.S_types HO181.out BK177.out (by decide)) (fun _ hk => hk.2) (.int .u64 t178)) (fun _ hk => hk.2) (.slice Ao35 t179.length co35)) (fun _ h_ => h_.1))))) (below_size (pH HB))); replace HO175 := Aside0.mk (Kd.S_elder' (by (with_reducible repeat (first | apply Kd.S_alloc | apply Kd.S_drewN | apply Kd.S_drew)); exact (Kd.S_mono (Kd.S_far (p := ⟨gb177, 1, none⟩) (Kd.S_far (p := ⟨gb177, 0, none⟩) (Kd.S_types HO175.out BK177.out (by decide)) (fun _ hk => hk.2) (.int .u64 t178)) (fun _ hk => hk.2) (.slice Ao35 t179.length co35)) (fun _ h_ => h_.1))) (Kd.S_base ho0) hb); replace HO181 := Aside0.mk (Kd.S_elder' (by (with_reducible repeat (first | apply Kd.S_alloc | apply Kd.S_drewN | apply Kd.S_drew)); exact (Kd.S_mono (Kd.S_far (p := ⟨gb177, 1, none⟩) (Kd.S_far (p := ⟨gb177, 0, none⟩) (Kd.S_types HO181.out BK177.out (by decide)) (fun _ hk => hk.2) (.int .u64 t178)) (fun _ hk => hk.2) (.slice Ao35 t179.length co35)) (fun _ h_ => h_.1))) (Kd.S_base ho0) hb); replace BK177 := Aside0.mk (blk_below (g := gb177) (o := .cells #[.int .u64 t178, .slice Ao35 t179.length co35] 25 (0, 0)) (by (with_reducible repeat (first | refine blk_drewN ?_ _ | refine blk_drew ?_ | refine blk_alloc ?_ _)); refine blk_put (cs := #[.int .u64 t178, .slice Ao32 t173.length co32]) ?_ 1 _ rfl; (with_reducible repeat (first | refine blk_drewN ?_ _ | refine blk_drew ?_ | refine blk_alloc ?_ _)); refine blk_put (cs := #[.int .u64 t172, .slice Ao32 t173.length co32]) ?_ 0 _ rfl; (with_reducible repeat (first | refine blk_drewN ?_ _ | refine blk_drew ?_ | refine blk_alloc ?_ _)); exact BK177.out) hb); replace HB := stB HB hb; (try clear hb); (try clear hb2); (try clear hk); (try clear hi); (try clear ho0); have hcz37_0 : w36.cell? ⟨gb177, 0, none⟩ = some (.int .u64 t178) := (blk_cell BK177.out 0).trans rfl; have hcz37_1 : w36.cell? ⟨gb177, 1, none⟩ = some (.slice Ao35 t179.length co35) := (blk_cell BK177.out 1).trans rfl; have hfz37_0 := blk_frozen BK177.out 0; have hfz37_1 := blk_frozen BK177.out 1; obtain ⟨Ao38, co38, eo38⟩ := Kd.S_slice HO186.out; subst eo38))
   go_ret
   exact ⟨by first | rfl | (simp [errW_none, errW_some] <;> rfl) | (simp [*, errW_none, errW_some] <;> rfl), by repeat (first | (with_reducible first | exact HB.out | apply below_alloc | apply pw_below_drewN | apply below_drew1 | refine below_set ?_ GE177.out) | exact HB.out)⟩
 ·
  rw [if_neg c4] at H
  have c4b0 : (t176 == 0) = false := beq_eq_false_iff_ne.mpr c4
  have c4b1 : (t176 != 0) = true := bne_iff_ne.mpr c4
  obtain rfl := Option.some.inj H
  go_enter Try.func12, Try.ntmps12
  go_wp2_with (first | ((with_reducible refine gate_callee (f := 9) rfl ?_); refine goesM_ (some 6) Try.func9 #[.int .u64 1, .int .i64 3, .int .i64 8] ?_; (with_reducible refine (signed_New.calls k 1 3 8 t172 t173 t176 _ A1.out).mono ?_); rintro e w39 ⟨v174, rfl, ho0, hb⟩; refine ⟨_, rfl, ?_⟩; have HO175 := Aside0.mk (Kd.S_lower ho0 (below_size (pH HB))); replace HB := stB HB hb; (try clear hb); (try clear hb2); (try clear hk); (try clear hi); (try clear ho0)) | ((with_reducible refine gate_dst (N := 1) rfl ?_); refine box_event ?hg (N := 1) ?hd (cs := #[.int .u64 0, .slice none 0 0]) (t := 25) ?hr ?_; (case hd => rfl); (case hg => rfl); (case hr => first | (go_simp; done) | (go_simp; rfl)); intro gb177 hg w40 hbox hb; have BK177 := Aside0.mk (hbox); have GW177 := geN HB hg; have GE177 := geN HB hg; replace HO175 := Aside0.mk (Kd.S_below (pS HO175) hb); replace HB := stB HB hb; clear hb hbox hg; have hcz41_0 : w40.cell? ⟨gb177, 0, none⟩ = some (.int .u64 0) := (blk_cell BK177.out 0).trans rfl; have hcz41_1 : w40.cell? ⟨gb177, 1, none⟩ = some (.slice none 0 0) := (blk_cell BK177.out 1).trans rfl; have hfz41_0 := blk_frozen BK177.out 0; have hfz41_1 := blk_frozen BK177.out 1; obtain ⟨Ao42, co42, eo42⟩ := Kd.S_slice HO175.out; subst eo42) | ((with_reducible refine gate_callee (f := 15) rfl ?_); refine goesM_ (some 11) Try.func15 #[.agg #[.int .u64 t172, .slice Ao42 t173.length co42], .string (⟨#[97]⟩ : ByteArray), .int .i64 5] ?_; (with_reducible refine (signed_Add.calls t172 _ _ t173 (⟨#[97]⟩ : ByteArray) 5 t178 t179 t182 _ ?side1 ?side2 A2.out).mono ?_); (case side1 => refine (Kd.S_reads' (e := 33) (base := w.heap.size) (ok := fun k_ => True) (n := t173.length) (c := co42) ?_).2.2; exact (by (with_reducible repeat (first | apply Kd.S_alloc | apply Kd.S_drewN | apply Kd.S_drew)); exact (Kd.S_mono (Kd.S_far (p := ⟨gb177, 1, none⟩) (Kd.S_far (p := ⟨gb177, 0, none⟩) (Kd.S_types HO175.out BK177.out (by decide)) (fun _ hk => hk.2) (.int .u64 t172)) (fun _ hk => hk.2) (.slice Ao42 t173.length co42)) (fun _ h_ => h_.1)))); (case side2 => exact (Kd.S_reads' HO175.out).2.1); rintro e w43 ⟨v180, rfl, ho0, hb⟩; refine ⟨_, rfl, ?_⟩; have HO181 := Aside0.mk (Kd.S_lower (Kd.S_new' ho0 (Kd.S_lt (by (with_reducible repeat (first | apply Kd.S_alloc | apply Kd.S_drewN | apply Kd.S_drew)); exact (Kd.S_mono (Kd.S_far (p := ⟨gb177, 1, none⟩) (Kd.S_far (p := ⟨gb177, 0, none⟩) (Kd.S_types HO175.out BK177.out (by decide)) (fun _ hk => hk.2) (.int .u64 t172)) (fun _ hk => hk.2) (.slice Ao42 t173.length co42)) (fun _ h_ => h_.1))))) (below_size (pH HB))); replace HO175 := Aside0.mk (Kd.S_elder' (by (with_reducible repeat (first | apply Kd.S_alloc | apply Kd.S_drewN | apply Kd.S_drew)); exact (Kd.S_mono (Kd.S_far (p := ⟨gb177, 1, none⟩) (Kd.S_far (p := ⟨gb177, 0, none⟩) (Kd.S_types HO175.out BK177.out (by decide)) (fun _ hk => hk.2) (.int .u64 t172)) (fun _ hk => hk.2) (.slice Ao42 t173.length co42)) (fun _ h_ => h_.1))) (Kd.S_base ho0) hb); replace BK177 := Aside0.mk (blk_below (g := gb177) (o := .cells #[.int .u64 t172, .slice Ao42 t173.length co42] 25 (0, 0)) (by (with_reducible repeat (first | refine blk_drewN ?_ _ | refine blk_drew ?_ | refine blk_alloc ?_ _)); refine blk_put (cs := #[.int .u64 t172, .slice none 0 0]) ?_ 1 _ rfl; (with_reducible repeat (first | refine blk_drewN ?_ _ | refine blk_drew ?_ | refine blk_alloc ?_ _)); refine blk_put (cs := #[.int .u64 0, .slice none 0 0]) ?_ 0 _ rfl; (with_reducible repeat (first | refine blk_drewN ?_ _ | refine blk_drew ?_ | refine blk_alloc ?_ _)); exact BK177.out) hb); replace HB := stB HB hb; (try clear hb); (try clear hb2); (try clear hk); (try clear hi); (try clear ho0); have hcz44_0 : w43.cell? ⟨gb177, 0, none⟩ = some (.int .u64 t172) := (blk_cell BK177.out 0).trans rfl; have hcz44_1 : w43.cell? ⟨gb177, 1, none⟩ = some (.slice Ao42 t173.length co42) := (blk_cell BK177.out 1).trans rfl; have hfz44_0 := blk_frozen BK177.out 0; have hfz44_1 := blk_frozen BK177.out 1; obtain ⟨Ao45, co45, eo45⟩ := Kd.S_slice HO181.out; subst eo45) | ((with_reducible refine gate_callee (f := 15) rfl ?_); refine goesM_ (some 16) Try.func15 #[.agg #[.int .u64 t178, .slice Ao45 t179.length co45], .string (⟨#[97]⟩ : ByteArray), .int .i64 (-2)] ?_; (with_reducible refine (signed_Add.calls t178 _ _ t179 (⟨#[97]⟩ : ByteArray) (-2) t183 t184 t187 _ ?side1 ?side2 A3.out).mono ?_); (case side1 => refine (Kd.S_reads' (e := 33) (base := w.heap.size) (ok := fun k_ => (True ∧ some k_ ≠ (.slice Ao42 t173.length co42 : Value).ownBlock)) (n := t179.length) (c := co45) ?_).2.2; exact (by (with_reducible repeat (first | apply Kd.S_alloc | apply Kd.S_drewN | apply Kd.S_drew)); exact (Kd.S_mono (Kd.S_far (p := ⟨gb177, 1, none⟩) (Kd.S_far (p := ⟨gb177, 0, none⟩) (Kd.S_types HO181.out BK177.out (by decide)) (fun _ hk => hk.2) (.int .u64 t178)) (fun _ hk => hk.2) (.slice Ao45 t179.length co45)) (fun _ h_ => h_.1)))); (case side2 => exact (Kd.S_reads' HO181.out).2.1); rintro e w46 ⟨v185, rfl, ho0, hb⟩; refine ⟨_, rfl, ?_⟩; have HO186 := Aside0.mk (Kd.S_lower (Kd.S_new' (Kd.S_new' ho0 (Kd.S_lt (by (with_reducible repeat (first | apply Kd.S_alloc | apply Kd.S_drewN | apply Kd.S_drew)); exact (Kd.S_mono (Kd.S_far (p := ⟨gb177, 1, none⟩) (Kd.S_far (p := ⟨gb177, 0, none⟩) (Kd.S_types HO175.out BK177.out (by decide)) (fun _ hk => hk.2) (.int .u64 t178)) (fun _ hk => hk.2) (.slice Ao45 t179.length co45)) (fun _ h_ => h_.1))))) (Kd.S_lt (by (with_reducible repeat (first | apply Kd.S_alloc | apply Kd.S_drewN | apply Kd.S_drew)); exact (Kd.S_mono (Kd.S_far (p := ⟨gb177, 1, none⟩) (Kd.S_far (p := ⟨gb177, 0, none⟩) (Kd.S_types HO181.out BK177.out (by decide)) (fun _ hk => hk.2) (.int .u64 t178)) (fun _ hk => hk.2) (.slice Ao45 t179.length co45)) (fun _ h_ => h_.1))))) (below_size (pH HB))); replace HO175 := Aside0.mk (Kd.S_elder' (by (with_reducible repeat (first | apply Kd.S_alloc | apply Kd.S_drewN | apply Kd.S_drew)); exact (Kd.S_mono (Kd.S_far (p := ⟨gb177, 1, none⟩) (Kd.S_far (p := ⟨gb177, 0, none⟩) (Kd.S_types HO175.out BK177.out (by decide)) (fun _ hk => hk.2) (.int .u64 t178)) (fun _ hk => hk.2) (.slice Ao45 t179.length co45)) (fun _ h_ => h_.1))) (Kd.S_base ho0) hb); replace HO181 := Aside0.mk (Kd.S_elder' (by (with_reducible repeat (first | apply Kd.S_alloc | apply Kd.S_drewN | apply Kd.S_drew)); exact (Kd.S_mono (Kd.S_far (p := ⟨gb177, 1, none⟩) (Kd.S_far (p := ⟨gb177, 0, none⟩) (Kd.S_types HO181.out BK177.out (by decide)) (fun _ hk => hk.2) (.int .u64 t178)) (fun _ hk => hk.2) (.slice Ao45 t179.length co45)) (fun _ h_ => h_.1))) (Kd.S_base ho0) hb); replace BK177 := Aside0.mk (blk_below (g := gb177) (o := .cells #[.int .u64 t178, .slice Ao45 t179.length co45] 25 (0, 0)) (by (with_reducible repeat (first | refine blk_drewN ?_ _ | refine blk_drew ?_ | refine blk_alloc ?_ _)); refine blk_put (cs := #[.int .u64 t178, .slice Ao42 t173.length co42]) ?_ 1 _ rfl; (with_reducible repeat (first | refine blk_drewN ?_ _ | refine blk_drew ?_ | refine blk_alloc ?_ _)); refine blk_put (cs := #[.int .u64 t172, .slice Ao42 t173.length co42]) ?_ 0 _ rfl; (with_reducible repeat (first | refine blk_drewN ?_ _ | refine blk_drew ?_ | refine blk_alloc ?_ _)); exact BK177.out) hb); replace HB := stB HB hb; (try clear hb); (try clear hb2); (try clear hk); (try clear hi); (try clear ho0); have hcz47_0 : w46.cell? ⟨gb177, 0, none⟩ = some (.int .u64 t178) := (blk_cell BK177.out 0).trans rfl; have hcz47_1 : w46.cell? ⟨gb177, 1, none⟩ = some (.slice Ao45 t179.length co45) := (blk_cell BK177.out 1).trans rfl; have hfz47_0 := blk_frozen BK177.out 0; have hfz47_1 := blk_frozen BK177.out 1; obtain ⟨Ao48, co48, eo48⟩ := Kd.S_slice HO186.out; subst eo48))
  go_ret
  exact ⟨by first | rfl | (simp [errW_none, errW_some] <;> rfl) | (simp [*, errW_none, errW_some] <;> rfl), by repeat (first | (with_reducible first | exact HB.out | apply below_alloc | apply pw_below_drewN | apply below_drew1 | refine below_set ?_ GE177.out) | exact HB.out)⟩

end Go.Proofs.Yteaeigpeaneicaa.G
end

section
/- Layer 12: sums of additions, the middle one, and the fixed answer. -/
namespace Go.Proofs.Yteaeigpeaneicaa.G
open Go Go.RowKit Go.Proofs.YteaeigpeaneicaaW.PrintWords Go.Proofs.YteaeigpeaneicaaPlain

theorem wf_u64 {n : Int} (h : (Lit.int .u64 n).wf = true) : 0 ≤ n ∧ n < 18446744073709551616 := by
  have e : IntKind.u64.min ≤ n ∧ n ≤ IntKind.u64.max := by simpa [Lit.wf] using h
  rw [show IntKind.u64.min = 0 from rfl, show IntKind.u64.max = 18446744073709551615 from rfl] at e
  omega
theorem wf_i32 {n : Int} (h : (Lit.int .i32 n).wf = true) : -2147483648 ≤ n ∧ n ≤ 2147483647 := by
  have e : IntKind.i32.min ≤ n ∧ n ≤ IntKind.i32.max := by simpa [Lit.wf] using h
  rw [show IntKind.i32.min = -2147483648 from rfl, show IntKind.i32.max = 2147483647 from rfl] at e
  omega
theorem wf_i64 {n : Int} (h : (Lit.int .i64 n).wf = true) : -9223372036854775808 ≤ n ∧ n ≤ 9223372036854775807 := by
  have e : IntKind.i64.min ≤ n ∧ n ≤ IntKind.i64.max := by simpa [Lit.wf] using h
  rw [show IntKind.i64.min = -9223372036854775808 from rfl, show IntKind.i64.max = 9223372036854775807 from rfl] at e
  omega
/-! the middle one -/
theorem srt_mem {l : List Int} {x : Int} : x ∈ srt l ↔ x ∈ l := List.mem_mergeSort
theorem med_mem {l : List Int} (h : l ≠ []) : med l ∈ l := by
  unfold med
  have hp : 0 < l.length := List.length_pos_iff.2 h
  rw [rd_get (srt l) (l.length / 2) (by rw [srt_length]; omega)]
  exact srt_mem.1 (List.getElem_mem _)
theorem srt_map_add (l : List Int) (n : Int) : srt (l.map (· + n)) = (srt l).map (· + n) := by
  unfold srt
  refine (List.map_mergeSort (r := fun x y => decide (x ≤ y)) (s := fun x y => decide (x ≤ y)) (f := fun x => x + n) (fun a _ b _ => decide_eq_decide.2 (by omega))).symm
theorem med_map_add {l : List Int} (h : l ≠ []) (n : Int) : med (l.map (· + n)) = med l + n := by
  have hp : 0 < l.length := List.length_pos_iff.2 h
  have hl : l.length / 2 < (srt l).length := by rw [srt_length]; omega
  unfold med
  rw [List.length_map, srt_map_add, rd_get (srt l) _ hl, rd_get _ _ (by rw [List.length_map]; exact hl), List.getElem_map]
theorem med_const {l : List Int} (h : l ≠ []) (n : Int) (hc : ∀ x ∈ l, x = n) : med l = n := hc _ (med_mem h)

/-! additions -/
theorem upd_at {rows : List (List Int)} (h : OkRows rows) (seed : Int) (key : ByteArray) (n : Int) (hn : -1099511627776 ≤ n ∧ n ≤ 1099511627776) (i : Int) (r : List Int) (hr : r ∈ rows) :
    signed_Add.upd seed key n i r = r.set (scell seed key i r.length).toNat (rd r (scell seed key i r.length) + ssign seed key i * n) := by
  unfold signed_Add.upd; rw [new_eq h seed key n hn i r hr]
theorem rd_upd {rows : List (List Int)} (h : OkRows rows) (seed : Int) (key : ByteArray) (n : Int) (hn : -1099511627776 ≤ n ∧ n ≤ 1099511627776) (i : Int) (r : List Int) (hr : r ∈ rows) :
    rd (signed_Add.upd seed key n i r) (scell seed key i r.length) = rd r (scell seed key i r.length) + ssign seed key i * n := by
  have hc := scell_in seed key i r.length (h.len r hr).1
  rw [upd_at h seed key n hn i r hr, rd_set_same r _ _ hc.1 hc.2]
theorem getL_add {rows : List (List Int)} (h : OkRows rows) (seed : Int) (key : ByteArray) (n : Int) (hn : -1099511627776 ≤ n ∧ n ≤ 1099511627776) :
    getL seed key (addRows seed key n rows) = (getL seed key rows).map (· + n) := by
  unfold getL addRows
  apply List.ext_getElem?
  intro j
  rw [List.getElem?_map, List.getElem?_mapIdx, List.getElem?_mapIdx, List.getElem?_mapIdx]
  by_cases c : j < rows.length
  · rw [List.getElem?_eq_getElem c]
    simp only [Option.map_some]
    rw [upd_length, rd_upd h seed key n hn (j : Int) _ (List.getElem_mem c), Int.mul_add, ← Int.mul_assoc, ssign_sq, Int.one_mul]
  · rw [List.getElem?_eq_none (by omega)]; rfl
theorem getL_length (seed : Int) (key : ByteArray) (rows : List (List Int)) : (getL seed key rows).length = rows.length := by simp [getL]
theorem getL_ne {rows : List (List Int)} (h : OkRows rows) (seed : Int) (key : ByteArray) : getL seed key rows ≠ [] := by
  intro e
  have h1 := congrArg List.length e
  rw [getL_length, List.length_nil] at h1
  have h2 := h.odd
  omega
theorem getL_mem {rows : List (List Int)} {seed : Int} {key : ByteArray} {x : Int} (h : x ∈ getL seed key rows) : ∃ i, ∃ (hi : i < rows.length), x = ssign seed key (i : Int) * rd rows[i] (scell seed key (i : Int) rows[i].length) := by
  obtain ⟨i, hi, rfl⟩ := List.getElem_of_mem h
  have hi' : i < rows.length := by rw [getL_length] at hi; exact hi
  exact ⟨i, hi', by simp [getL]⟩
theorem getL_range {rows : List (List Int)} (h : OkRows rows) (seed : Int) (key : ByteArray) (x : Int) (hx : x ∈ getL seed key rows) : -1099511627776 ≤ x ∧ x ≤ 1099511627776 := by
  obtain ⟨i, hi, rfl⟩ := getL_mem hx
  have hc := scell_in seed key (i : Int) rows[i].length (h.len _ (List.getElem_mem hi)).1
  have hv := h.val _ (List.getElem_mem hi) _ (rd_mem rows[i] _ hc.1 hc.2)
  rcases ssign_mul seed key (i : Int) (rd rows[i] (scell seed key (i : Int) rows[i].length)) with e | e <;> rw [e] <;> omega
theorem med_range {rows : List (List Int)} (h : OkRows rows) (seed : Int) (key : ByteArray) : -1099511627776 ≤ med (getL seed key rows) ∧ med (getL seed key rows) ≤ 1099511627776 := getL_range h seed key _ (med_mem (getL_ne h seed key))
theorem addRows_add {rows : List (List Int)} (h : OkRows rows) (seed : Int) (key : ByteArray) (a b : Int) (ha : -1099511627776 ≤ a ∧ a ≤ 1099511627776) (hb : -1099511627776 ≤ b ∧ b ≤ 1099511627776) (hab : -1099511627776 ≤ a + b ∧ a + b ≤ 1099511627776)
    (hf : addFits seed key a rows) : addRows seed key b (addRows seed key a rows) = addRows seed key (a + b) rows := by
  have h2 := addRows_ok h seed key a hf
  apply List.ext_getElem?
  intro j
  by_cases c : j < rows.length
  · have c2 : j < (addRows seed key a rows).length := by rw [addRows_length]; exact c
    have e1 := addRows_get seed key a rows j c
    rw [List.getElem?_eq_getElem c2] at e1
    have e2 := Option.some.inj e1
    rw [addRows_get seed key b _ j c2, addRows_get seed key (a + b) rows j c, upd_at h2 seed key b hb (j : Int) _ (List.getElem_mem c2), e2, upd_length, rd_upd h seed key a ha (j : Int) _ (List.getElem_mem c), upd_at h seed key a ha (j : Int) _ (List.getElem_mem c), upd_at h seed key (a + b) hab (j : Int) _ (List.getElem_mem c), List.set_set, Int.mul_add, Int.add_assoc]
  · rw [List.getElem?_eq_none (by rw [addRows_length, addRows_length]; omega), List.getElem?_eq_none (by rw [addRows_length]; omega)]
/-- Rows whose numbers are this small. -/
def Within (B : Int) (rows : List (List Int)) : Prop := ∀ r ∈ rows, ∀ v ∈ r, -B ≤ v ∧ v ≤ B
theorem new_within {rows : List (List Int)} (h : OkRows rows) {B N : Int} (hw : Within B rows) (seed : Int) (key : ByteArray) (n : Int) (hn : -N ≤ n ∧ n ≤ N) (hN : N ≤ 1099511627776) (i : Int) (r : List Int) (hr : r ∈ rows) :
    -(B + N) ≤ signed_Add.new seed key n i r ∧ signed_Add.new seed key n i r ≤ B + N := by
  have hc := scell_in seed key i r.length (h.len r hr).1
  have hv := hw r hr _ (rd_mem r _ hc.1 hc.2)
  rw [new_eq h seed key n (by omega) i r hr]
  rcases ssign_mul seed key i n with e | e <;> rw [e] <;> omega
theorem addFits_within {rows : List (List Int)} (h : OkRows rows) {B N : Int} (hw : Within B rows) (seed : Int) (key : ByteArray) (n : Int) (hn : -N ≤ n ∧ n ≤ N) (hN : B + N ≤ 1099511627776) (hB : 0 ≤ B) : addFits seed key n rows := by
  intro j hj
  have := new_within h hw seed key n hn (by omega) (j : Int) _ (List.getElem_mem hj)
  exact (addfits_iff _).2 (by omega)
theorem within_add {rows : List (List Int)} (h : OkRows rows) {B N : Int} (hw : Within B rows) (seed : Int) (key : ByteArray) (n : Int) (hn : -N ≤ n ∧ n ≤ N) (hN : N ≤ 1099511627776) : Within (B + N) (addRows seed key n rows) := by
  intro r hr v hv
  obtain ⟨i, hi, rfl⟩ := addRows_mem hr
  unfold signed_Add.upd at hv
  rcases List.mem_or_eq_of_mem_set hv with h1 | h1
  · have := hw _ (List.getElem_mem hi) v h1; omega
  · rw [h1]; exact new_within h hw seed key n hn hN (i : Int) _ (List.getElem_mem hi)
theorem within_new (rows cols : Int) : Within 0 (List.replicate rows.toNat (List.replicate cols.toNat (0 : Int))) := by
  intro r hr v hv
  rw [List.eq_of_mem_replicate hr] at hv
  rw [List.eq_of_mem_replicate hv]; omega
theorem getL_new (seed : Int) (key : ByteArray) (rows cols : Int) (h : newOk rows cols) (x : Int) (hx : x ∈ getL seed key (List.replicate rows.toNat (List.replicate cols.toNat (0 : Int)))) : x = 0 := by
  have hok := new_okRows rows cols h
  obtain ⟨i, hi, rfl⟩ := getL_mem hx
  have hc := scell_in seed key (i : Int) _ (hok.len _ (List.getElem_mem hi)).1
  have hv := within_new rows cols _ (List.getElem_mem hi) _ (rd_mem _ _ hc.1 hc.2)
  have e : ∀ y : Int, -0 ≤ y ∧ y ≤ 0 → y = 0 := fun y hy => by omega
  rw [e _ hv, Int.mul_zero]
/-! what Add answers -/
theorem add_total (seed : Int) (rows : List (List Int)) (key : ByteArray) (n : Int) (h0 : 0 ≤ seed) (h1 : seed < 18446744073709551616) (hs : key.size ≤ 140737488351232) :
    ∃ r, signed_Add.f seed rows key n = some r ∧ 0 ≤ r.1 ∧ r.1 < 18446744073709551616 ∧ (r.2.2 = 0 → OkRows rows ∧ (-1099511627776 ≤ n ∧ n ≤ 1099511627776) ∧ addFits seed key n rows ∧ r = (seed, addRows seed key n rows, 0)) := by
  by_cases a : OkRows rows ∧ (-1099511627776 ≤ n ∧ n ≤ 1099511627776)
  · by_cases b : addFits seed key n rows
    · exact ⟨_, add_ok a.1 seed key n h0 h1 hs a.2 b, h0, h1, fun _ => ⟨a.1, a.2, b, rfl⟩⟩
    · exact ⟨_, add_full a.1 seed key n h0 h1 hs a.2 b, by decide, by decide, fun e => by cases e⟩
  · exact ⟨_, add_arg seed key n h0 h1 hs (Classical.not_and_iff_not_or_not.1 a), by decide, by decide, fun e => by cases e⟩
/-! the fixed answer -/
theorem awake_ev : Ev (fun k => rillmeterlaw12_awake.f k) true := by
  have hn : newOk 3 8 := by unfold newOk; omega
  have hok := new_okRows 3 8 hn
  have hw := within_new 3 8
  generalize hkey : (⟨#[97]⟩ : ByteArray) = key
  have hks : key.size ≤ 140737488351232 := by rw [← hkey]; decide
  have f1 := addFits_within hok hw 1 key 5 (N := 5) (by omega) (by omega) (by omega)
  have ok1 := addRows_ok hok 1 key 5 f1
  have w1 := within_add hok hw 1 key 5 (N := 5) (by omega) (by omega)
  have f2 := addFits_within ok1 w1 1 key (-2) (N := 2) (by omega) (by omega) (by omega)
  have ok2 := addRows_ok ok1 1 key (-2) f2
  have e1 := add_ok hok 1 key 5 (by omega) (by omega) hks (by omega) f1
  have e2 := add_ok ok1 1 key (-2) (by omega) (by omega) hks (by omega) f2
  have hm : med (getL 1 key (addRows 1 key (-2) (addRows 1 key 5 (List.replicate (3 : Int).toNat (List.replicate (8 : Int).toNat (0 : Int)))))) = 3 := by
    rw [getL_add ok1 1 key (-2) (by omega), getL_add hok 1 key 5 (by omega), med_map_add (by simpa using getL_ne hok 1 key), med_map_add (getL_ne hok 1 key), med_const (getL_ne hok 1 key) 0 (getL_new 1 key 3 8 hn)]
    rfl
  have hg := signed_Get_ev ok2 1 key (by omega) (by omega) hks
  rw [hm] at hg
  refine Ev.congr (f := fun k => (signed_New.f k 1 3 8).bind fun bt172 => ((signed_Add.f bt172.1 bt172.2.1 key 5).bind fun bt178 => ((signed_Add.f bt178.1 bt178.2.1 key (-2)).bind fun bt183 => (if bt172.2.2 = 0 then (if bt178.2.2 = 0 then (if bt183.2.2 = 0 then ((signed_Get.f k bt183.1 bt183.2.1 key).bind fun t188 => (some (t188 == 3))) else (some false)) else (some false)) else (some false))))) (fun k => by unfold rillmeterlaw12_awake.f; rw [hkey]) ?_
  refine Ev.bind (f := fun k bt172 => ((signed_Add.f bt172.1 bt172.2.1 key 5).bind fun bt178 => ((signed_Add.f bt178.1 bt178.2.1 key (-2)).bind fun bt183 => (if bt172.2.2 = 0 then (if bt178.2.2 = 0 then (if bt183.2.2 = 0 then ((signed_Get.f k bt183.1 bt183.2.1 key).bind fun t188 => (some (t188 == 3))) else (some false)) else (some false)) else (some false))))) (signed_New_ev 1 3 8 hn) ?_
  simp only [e1, Option.bind_some, e2, if_pos trivial]
  refine Ev.bind (f := fun _ t188 => (some (t188 == 3))) hg ?_
  exact Ev.now _
end Go.Proofs.Yteaeigpeaneicaa.G
end

section
-- Printed by gprint.py: a program of this session over the kit's print. Not trusted: Lean checks it.
namespace Go.Proofs.Yteaeigpeaneicaa.G
open Go.RowKit Go.Proofs.YteaeigpeaneicaaW.PrintWords Go.Proofs.YteaeigpeaneicaaW.PrintLast Go.Proofs.YteaeigpeaneicaaW.PrintMore
attribute [local go_sem] max2_int min2_int max_two min_two max_three min_three max_four min_four   -- for this text's walks alone
set_option linter.unusedVariables false
set_option linter.unusedSimpArgs false

/-! ### rillmeterref12_Fits: function 21 -/
def rillmeterref12_Fits.f (a0 : Int) : Option (Bool) := if a0 ≥ (-1099511627776) then (some (decide (a0 ≤ 1099511627776))) else (some false)
set_option maxHeartbeats 8000000 in
set_option maxRecDepth 100000 in
theorem rillmeterref12_Fits.calls (a0 : Int) (r : Bool) (w : World) (h : rillmeterref12_Fits.f a0 = some r) :
    Calls Try.prog 21 #[.int .i64 a0] w fun e w' => e = .returned (.bool r) ∧ Drawn0 w w' := by
  have H : (if a0 ≥ (-1099511627776) then (some (decide (a0 ≤ 1099511627776))) else (some false)) = some r := h
  clear h
  by_cases c2 : a0 ≥ (-1099511627776)
  · rw [if_pos c2] at H
    have c2b0 : decide ((-1099511627776) ≤ a0) = true := decide_eq_true c2
    clear c2
    obtain rfl := Option.some.inj H
    go_enter Try.func21, Try.ntmps21
    go_wp2
    go_ret
    exact ⟨by first | rfl | (simp; done) | (simp [*]; done), by repeat (first | exact Drawn0.refl _ | apply Drawn0.step)⟩
  · rw [if_neg c2] at H
    have c2b0 : decide ((-1099511627776) ≤ a0) = false := decide_eq_false c2
    clear c2
    obtain rfl := Option.some.inj H
    go_enter Try.func21, Try.ntmps21
    go_wp2
    go_ret
    exact ⟨by first | rfl | (simp; done) | (simp [*]; done), by repeat (first | exact Drawn0.refl _ | apply Drawn0.step)⟩

end Go.Proofs.Yteaeigpeaneicaa.G
end

section
-- Printed by gprint.py: a program of this session over the kit's print. Not trusted: Lean checks it.
namespace Go.Proofs.Yteaeigpeaneicaa.G
open Go.RowKit Go.Proofs.YteaeigpeaneicaaW.PrintWords Go.Proofs.YteaeigpeaneicaaW.PrintLast Go.Proofs.YteaeigpeaneicaaW.PrintMore
attribute [local go_sem] max2_int min2_int max_two min_two max_three min_three max_four min_four   -- for this text's walks alone
set_option linter.unusedVariables false
set_option linter.unusedSimpArgs false

/-! ### rillmeterref12_Right: function 13 -/
mutual
def rillmeterref12_Right.j0 : Nat → Int → Bool → Int → List (List Int) → Option (Bool)
 | 0, _, _, _, _ => none
 | k + 1, x3, x23, x190000, x190001 => if x23 = true then (some false) else (rillmeterref12_Right.l0 k x3 0 x190000 x190001)
def rillmeterref12_Right.l0 : Nat → Int → Int → Int → List (List Int) → Option (Bool)
 | 0, _, _, _, _ => none
 | k + 1, x3, x4, x190000, x190001 => if x4 < x3 then (if 0 ≤ x4 then (if x4 < (x190001.length : Int) then (if ((rd_L1 x190001 x4).length : Int) = 0 then (rillmeterref12_Right.j2 k x3 x4 ((rd_L1 x190001 x4).length : Int) true x190000 x190001) else (if ((rd_L1 x190001 x4).length : Int) > 256 then (rillmeterref12_Right.j2 k x3 x4 ((rd_L1 x190001 x4).length : Int) true x190000 x190001) else (if 0 < (x190001.length : Int) then (rillmeterref12_Right.j2 k x3 x4 ((rd_L1 x190001 x4).length : Int) (((rd_L1 x190001 x4).length : Int) != ((rd_L1 x190001 0).length : Int)) x190000 x190001) else (none)))) else (none)) else (none)) else (some true)
def rillmeterref12_Right.j2 : Nat → Int → Int → Int → Bool → Int → List (List Int) → Option (Bool)
 | 0, _, _, _, _, _, _ => none
 | k + 1, x3, x4, x5, x49, x190000, x190001 => if x49 = true then (some false) else (rillmeterref12_Right.l1 k x3 x4 x5 0 x190000 x190001)
def rillmeterref12_Right.l1 : Nat → Int → Int → Int → Int → Int → List (List Int) → Option (Bool)
 | 0, _, _, _, _, _, _ => none
 | k + 1, x3, x4, x5, x6, x190000, x190001 => if x6 < x5 then (if 0 ≤ x4 then (if x4 < (x190001.length : Int) then (if 0 ≤ x6 then (if x6 < ((rd_L1 x190001 x4).length : Int) then ((rillmeterref12_Fits.f (rd (rd_L1 x190001 x4) x6)).bind fun t194 => (if t194 = true then (rillmeterref12_Right.l1 k x3 x4 x5 (wrap64 (x6 + 1)) x190000 x190001) else (some false))) else (none)) else (none)) else (none)) else (none)) else (rillmeterref12_Right.l0 k x3 (wrap64 (x4 + 1)) x190000 x190001)
end
def rillmeterref12_Right.f (k : Nat) (a0_0 : Int) (l0_1 : List (List Int)) : Option (Bool) := if (l0_1.length : Int) = 1 then (rillmeterref12_Right.j0 k (l0_1.length : Int) false a0_0 l0_1) else (if (l0_1.length : Int) = 3 then (rillmeterref12_Right.j0 k (l0_1.length : Int) false a0_0 l0_1) else (if (l0_1.length : Int) = 5 then (rillmeterref12_Right.j0 k (l0_1.length : Int) false a0_0 l0_1) else (rillmeterref12_Right.j0 k (l0_1.length : Int) ((l0_1.length : Int) != 7) a0_0 l0_1)))
theorem rillmeterref12_Right.mono_l : ∀ k, (∀ y0 y1 y2 y3, LeO (rillmeterref12_Right.j0 k y0 y1 y2 y3) (rillmeterref12_Right.j0 (k + 1) y0 y1 y2 y3)) ∧ (∀ y0 y1 y2 y3, LeO (rillmeterref12_Right.l0 k y0 y1 y2 y3) (rillmeterref12_Right.l0 (k + 1) y0 y1 y2 y3)) ∧ (∀ y0 y1 y2 y3 y4 y5, LeO (rillmeterref12_Right.j2 k y0 y1 y2 y3 y4 y5) (rillmeterref12_Right.j2 (k + 1) y0 y1 y2 y3 y4 y5)) ∧ (∀ y0 y1 y2 y3 y4 y5, LeO (rillmeterref12_Right.l1 k y0 y1 y2 y3 y4 y5) (rillmeterref12_Right.l1 (k + 1) y0 y1 y2 y3 y4 y5))
 | 0 => ⟨fun _ _ _ _ r h => by simp [rillmeterref12_Right.j0] at h, fun _ _ _ _ r h => by simp [rillmeterref12_Right.l0] at h, fun _ _ _ _ _ _ r h => by simp [rillmeterref12_Right.j2] at h, fun _ _ _ _ _ _ r h => by simp [rillmeterref12_Right.l1] at h⟩
 | k + 1 => by
  obtain ⟨ih0, ih1, ih2, ih3⟩ := rillmeterref12_Right.mono_l k
  refine ⟨?_, ?_, ?_, ?_⟩
  ·
   intro y0 y1 y2 y3
   unfold rillmeterref12_Right.j0
   repeat' first
   | (with_reducible exact ih0 _ _ _ _)
   | (with_reducible exact ih1 _ _ _ _)
   | (with_reducible exact ih2 _ _ _ _ _ _)
   | (with_reducible exact ih3 _ _ _ _ _ _)
   | (with_reducible exact LeO.refl _)
   | (with_reducible exact LeO.none _)
   | (with_reducible refine LeO.ite ?_ ?_)
   | (with_reducible refine LeO.bind ?_ (fun _ => ?_))
   | exact ih0 _ _ _ _
   | exact ih1 _ _ _ _
   | exact ih2 _ _ _ _ _ _
   | exact ih3 _ _ _ _ _ _
   | exact LeO.none _
   | refine LeO.ite ?_ ?_
   | refine LeO.bind ?_ (fun _ => ?_)
  ·
   intro y0 y1 y2 y3
   unfold rillmeterref12_Right.l0
   repeat' first
   | (with_reducible exact ih0 _ _ _ _)
   | (with_reducible exact ih1 _ _ _ _)
   | (with_reducible exact ih2 _ _ _ _ _ _)
   | (with_reducible exact ih3 _ _ _ _ _ _)
   | (with_reducible exact LeO.refl _)
   | (with_reducible exact LeO.none _)
   | (with_reducible refine LeO.ite ?_ ?_)
   | (with_reducible refine LeO.bind ?_ (fun _ => ?_))
   | exact ih0 _ _ _ _
   | exact ih1 _ _ _ _
   | exact ih2 _ _ _ _ _ _
   | exact ih3 _ _ _ _ _ _
   | exact LeO.none _
   | refine LeO.ite ?_ ?_
   | refine LeO.bind ?_ (fun _ => ?_)
  ·
   intro y0 y1 y2 y3 y4 y5
   unfold rillmeterref12_Right.j2
   repeat' first
   | (with_reducible exact ih0 _ _ _ _)
   | (with_reducible exact ih1 _ _ _ _)
   | (with_reducible exact ih2 _ _ _ _ _ _)
   | (with_reducible exact ih3 _ _ _ _ _ _)
   | (with_reducible exact LeO.refl _)
   | (with_reducible exact LeO.none _)
   | (with_reducible refine LeO.ite ?_ ?_)
   | (with_reducible refine LeO.bind ?_ (fun _ => ?_))
   | exact ih0 _ _ _ _
   | exact ih1 _ _ _ _
   | exact ih2 _ _ _ _ _ _
   | exact ih3 _ _ _ _ _ _
   | exact LeO.none _
   | refine LeO.ite ?_ ?_
   | refine LeO.bind ?_ (fun _ => ?_)
  ·
   intro y0 y1 y2 y3 y4 y5
   unfold rillmeterref12_Right.l1
   repeat' first
   | (with_reducible exact ih0 _ _ _ _)
   | (with_reducible exact ih1 _ _ _ _)
   | (with_reducible exact ih2 _ _ _ _ _ _)
   | (with_reducible exact ih3 _ _ _ _ _ _)
   | (with_reducible exact LeO.refl _)
   | (with_reducible exact LeO.none _)
   | (with_reducible refine LeO.ite ?_ ?_)
   | (with_reducible refine LeO.bind ?_ (fun _ => ?_))
   | exact ih0 _ _ _ _
   | exact ih1 _ _ _ _
   | exact ih2 _ _ _ _ _ _
   | exact ih3 _ _ _ _ _ _
   | exact LeO.none _
   | refine LeO.ite ?_ ?_
   | refine LeO.bind ?_ (fun _ => ?_)
theorem rillmeterref12_Right.mono : ∀ a0 a1 k, LeO (rillmeterref12_Right.f k a0 a1) (rillmeterref12_Right.f (k + 1) a0 a1) := by
 intro a0 a1 k
 obtain ⟨ih0, ih1, ih2, ih3⟩ := rillmeterref12_Right.mono_l k
 unfold rillmeterref12_Right.f
 repeat' first
   | (with_reducible exact ih0 _ _ _ _)
   | (with_reducible exact ih1 _ _ _ _)
   | (with_reducible exact ih2 _ _ _ _ _ _)
   | (with_reducible exact ih3 _ _ _ _ _ _)
   | (with_reducible exact LeO.refl _)
   | (with_reducible exact LeO.none _)
   | (with_reducible refine LeO.ite ?_ ?_)
   | (with_reducible refine LeO.bind ?_ (fun _ => ?_))
   | exact ih0 _ _ _ _
   | exact ih1 _ _ _ _
   | exact ih2 _ _ _ _ _ _
   | exact ih3 _ _ _ _ _ _
   | exact LeO.none _
   | refine LeO.ite ?_ ?_
   | refine LeO.bind ?_ (fun _ => ?_)
set_option maxHeartbeats 8000000 in
set_option maxRecDepth 100000 in
theorem rillmeterref12_Right.calls (k : Nat) (a0_0 : Int) (A0_1 : Option Addr) (c0_1 : Nat) (l0_1 : List (List Int)) (r : Bool) (w : World) (hr0_1 : Kd.C (Kd.slice 3 (Kd.int .i64)) w A0_1 l0_1.length l0_1) (hc0_1 : l0_1.length ≤ c0_1) (h : rillmeterref12_Right.f k a0_0 l0_1 = some r) :
  Calls Try.prog 13 #[.agg #[.int .u64 a0_0, .slice A0_1 l0_1.length c0_1]] w fun e w' => e = .returned (.bool r) ∧ Below w.heap.size w w' := by
 have hu30 := Try.underlying30
 have HR0_1 := Aside0.mk hr0_1
 have HC0_1 := Aside0.mk hc0_1
 clear hr0_1 hc0_1
 have HB := Aside0.mk (Below.refl w.heap.size w)
 have H : (if (l0_1.length : Int) = 1 then (rillmeterref12_Right.j0 k (l0_1.length : Int) false a0_0 l0_1) else (if (l0_1.length : Int) = 3 then (rillmeterref12_Right.j0 k (l0_1.length : Int) false a0_0 l0_1) else (if (l0_1.length : Int) = 5 then (rillmeterref12_Right.j0 k (l0_1.length : Int) false a0_0 l0_1) else (rillmeterref12_Right.j0 k (l0_1.length : Int) ((l0_1.length : Int) != 7) a0_0 l0_1)))) = some r := h
 clear h
 have HC2 := Aside0.mk H
 clear H
 go_enter Try.func13, Try.ntmps13
 go_upto_region 2 with (first | ((with_reducible refine gate_dst (N := 1) rfl ?_); (try (refine gate_guard (by rfl) ?_; dsimp only)); refine box_event ?hg (N := 1) ?hd (cs := #[.int .u64 a0_0, .slice A0_1 l0_1.length c0_1]) (t := 30) ?hr ?_; (case hd => rfl); (case hg => rfl); (case hr => first | (go_simp; done) | (go_simp; rfl)); intro gb189 hg w3 hbox hb; have BK189 := Aside0.mk (hbox); have GW189 := geN HB hg; have GE189 := geN HB hg; replace HB := stB HB hb; clear hb hbox hg; have hcz4_0 : w3.cell? ⟨gb189, 0, none⟩ = some (.int .u64 a0_0) := (blk_cell BK189.out 0).trans rfl; have hcz4_1 : w3.cell? ⟨gb189, 1, none⟩ = some (.slice A0_1 l0_1.length c0_1) := (blk_cell BK189.out 1).trans rfl; have hfz4_0 := blk_frozen BK189.out 0; have hfz4_1 := blk_frozen BK189.out 1))
 (try simp only [Act.put, List.setIfInBounds_toArray, List.set_cons_zero, List.set_cons_succ])
 go_cut [23] (fun v23 wc => ∃ (kq : Nat) (x23_1 : Bool), v23 = .bool x23_1 ∧ Aside0 (rillmeterref12_Right.j0 kq (l0_1.length : Int) x23_1 a0_0 l0_1 = some r) ∧ Aside0 (kq ≤ k) ∧ Aside0 (wc.heap[gb189]? = some (.cells #[.int .u64 a0_0, (.slice A0_1 l0_1.length c0_1)] 30 (0, 0))) ∧ Aside0 (Below w.heap.size w wc))
 case first =>
  have H := HC2.out
  clear HC2
  by_cases c5 : (l0_1.length : Int) = 1
  ·
   rw [if_pos c5] at H
   have c5b0 : ((l0_1.length : Int) == 1) = true := beq_iff_eq.mpr c5
   have c5b1 : ((l0_1.length : Int) != 1) = false := bne_eq_false_iff_eq.mpr c5
   clear c5
   (first | rw [c5b0] | (simp only [i64_w, i32_w]; rw [c5b0]) | skip)
   have H' := Aside0.mk H
   clear H
   go_wp2
   go_meet
   case rel => exact ⟨_, (false), (by first | rfl | (simp; done) | (simp [*]; done)), H', ⟨by first | omega | exact Nat.le_refl _⟩, ⟨pB BK189⟩, ⟨pH HB⟩⟩
  ·
   rw [if_neg c5] at H
   have c5b0 : ((l0_1.length : Int) == 1) = false := beq_eq_false_iff_ne.mpr c5
   have c5b1 : ((l0_1.length : Int) != 1) = true := bne_iff_ne.mpr c5
   (first | rw [c5b0] | (simp only [i64_w, i32_w]; rw [c5b0]) | skip)
   by_cases c6 : (l0_1.length : Int) = 3
   ·
    rw [if_pos c6] at H
    have c6b0 : ((l0_1.length : Int) == 3) = true := beq_iff_eq.mpr c6
    have c6b1 : ((l0_1.length : Int) != 3) = false := bne_eq_false_iff_eq.mpr c6
    clear c6
    have H' := Aside0.mk H
    clear H
    go_wp2
    go_meet
    case rel => exact ⟨_, (false), (by first | rfl | (simp; done) | (simp [*]; done)), H', ⟨by first | omega | exact Nat.le_refl _⟩, ⟨pB BK189⟩, ⟨pH HB⟩⟩
   ·
    rw [if_neg c6] at H
    have c6b0 : ((l0_1.length : Int) == 3) = false := beq_eq_false_iff_ne.mpr c6
    have c6b1 : ((l0_1.length : Int) != 3) = true := bne_iff_ne.mpr c6
    by_cases c7 : (l0_1.length : Int) = 5
    ·
     rw [if_pos c7] at H
     have c7b0 : ((l0_1.length : Int) == 5) = true := beq_iff_eq.mpr c7
     have c7b1 : ((l0_1.length : Int) != 5) = false := bne_eq_false_iff_eq.mpr c7
     clear c7
     have H' := Aside0.mk H
     clear H
     go_wp2
     go_meet
     case rel => exact ⟨_, (false), (by first | rfl | (simp; done) | (simp [*]; done)), H', ⟨by first | omega | exact Nat.le_refl _⟩, ⟨pB BK189⟩, ⟨pH HB⟩⟩
    ·
     rw [if_neg c7] at H
     have c7b0 : ((l0_1.length : Int) == 5) = false := beq_eq_false_iff_ne.mpr c7
     have c7b1 : ((l0_1.length : Int) != 5) = true := bne_iff_ne.mpr c7
     have H' := Aside0.mk H
     clear H
     go_wp2
     go_meet
     case rel => exact ⟨_, (((l0_1.length : Int) != 7)), (by first | rfl | (simp; done) | (simp [*]; done)), H', ⟨by first | omega | exact Nat.le_refl _⟩, ⟨pB BK189⟩, ⟨pH HB⟩⟩
 case rest =>
  clear HC2
  try clear c1
  try clear p2
  try clear c5
  try clear c5b0
  try clear c5b1
  try clear c6
  try clear c6b0
  try clear c6b1
  try clear c7
  try clear c7b0
  try clear c7b1
  try clear hcz4_0
  try clear hcz4_1
  try clear hfz4_0
  try clear hfz4_1
  obtain ⟨kq, x23_1, rfl, HA, HJ1, BK189, HB⟩ := hcut
  cases kq with
  | zero => exact absurd HA.out (by simp [rillmeterref12_Right.j0])
  | succ kj1 =>
   have H := HA.out
   clear HA
   simp only [rillmeterref12_Right.j0] at H
   by_cases c8 : x23_1 = true
   ·
    subst c8
    have H1 : (some false) = some r := by rw [if_pos rfl] at H; exact H
    clear H
    have H := H1
    clear H1
    obtain rfl := Option.some.inj H
    go_wp2
    go_ret
    exact ⟨by first | rfl | (simp [errW_none, errW_some] <;> rfl) | (simp [*, errW_none, errW_some] <;> rfl), by repeat (first | (with_reducible first | exact HB.out | apply below_alloc | apply pw_below_drewN | apply below_drew1 | refine below_set ?_ GE189.out) | exact HB.out)⟩
   ·
    replace c8 := Bool.eq_false_iff.mpr c8
    subst c8
    have H1 : (rillmeterref12_Right.l0 kj1 (l0_1.length : Int) 0 a0_0 l0_1) = some r := by rw [if_neg (show ¬ (false = true) by decide)] at H; exact H
    clear H
    have H := H1
    clear H1
    have H' := Aside0.mk H
    clear H
    go_wp2
    go_loopg [4] kj1 (fun kq v4 w' => ∃ (x4_2 : Int), v4 = .int .i64 x4_2 ∧ Aside0 (rillmeterref12_Right.l0 kq (l0_1.length : Int) x4_2 a0_0 l0_1 = some r) ∧ Aside0 (kq ≤ kj1) ∧ Aside0 (w'.heap[gb189]? = some (.cells #[.int .u64 a0_0, (.slice A0_1 l0_1.length c0_1)] 30 (0, 0))) ∧ Aside0 (Below w.heap.size w w'))
    case atStart => exact ⟨(0), (by first | rfl | (simp; done) | (simp [*]; done)), H', ⟨Nat.le_refl _⟩, ⟨pB BK189⟩, ⟨pH HB⟩⟩
    case round =>
     clear H'
     try clear c1
     try clear p2
     try clear c5
     try clear c5b0
     try clear c5b1
     try clear c6
     try clear c6b0
     try clear c6b1
     try clear c7
     try clear c7b0
     try clear c7b1
     try clear c8
     try clear hcz4_0
     try clear hcz4_1
     try clear hfz4_0
     try clear hfz4_1
     try clear p2
     obtain ⟨x4_2, rfl, HA, HK2, BK189, HB⟩ := hrel
     cases gk with
     | zero => exact absurd HA.out (by simp [rillmeterref12_Right.l0])
     | succ k2 =>
      have H := HA.out
      clear HA
      simp only [rillmeterref12_Right.l0] at H
      by_cases c9 : x4_2 < (l0_1.length : Int)
      ·
       rw [if_pos c9] at H
       have c9b0 : decide (x4_2 < (l0_1.length : Int)) = true := decide_eq_true c9
       clear c9
       by_cases c10 : 0 ≤ x4_2
       ·
        rw [if_pos c10] at H
        have c10b0 : decide (0 ≤ x4_2) = true := decide_eq_true c10
        clear c10
        by_cases c11 : x4_2 < (l0_1.length : Int)
        ·
         rw [if_pos c11] at H
         have c11b0 : decide (x4_2 < (l0_1.length : Int)) = true := decide_eq_true c11
         clear c11
         have HC12 := Aside0.mk H
         clear H
         have hcz13_0 : wr.cell? ⟨gb189, 0, none⟩ = some (.int .u64 a0_0) := (blk_cell BK189.out 0).trans rfl
         have hcz13_1 : wr.cell? ⟨gb189, 1, none⟩ = some (.slice A0_1 l0_1.length c0_1) := (blk_cell BK189.out 1).trans rfl
         have hfz13_0 := blk_frozen BK189.out 0
         have hfz13_1 := blk_frozen BK189.out 1
         have p190 : 0 ≤ (x4_2 : Int) := of_decide_eq_true (by first | (with_reducible assumption) | assumption)
         have q190 : x4_2 < (l0_1.length : Int) := of_decide_eq_true (by first | (with_reducible assumption) | assumption)
         obtain ⟨ad190, A190_0, c190_0, e190, hx190_0, hl190_0, hi190_0⟩ := at_L1 HR0_1.out x4_2 p190 q190
         cases e190
         replace hx190_0 := (HB.out.cell (World.block_lt_of_cell? w _ hx190_0)).trans hx190_0
         have HR190_0 := Aside0.mk hi190_0
         have HC190_0 := Aside0.mk hl190_0
         clear hi190_0 hl190_0
         replace p190 := eq_true p190
         replace q190 := eq_true q190
         go_upto_region 8 with (fail)
         go_cut [49] (fun v49 wc => ∃ (kq : Nat) (x49_11 : Bool), v49 = .bool x49_11 ∧ Aside0 (rillmeterref12_Right.j2 kq (l0_1.length : Int) x4_2 ((rd_L1 l0_1 x4_2).length : Int) x49_11 a0_0 l0_1 = some r) ∧ Aside0 (kq ≤ k2) ∧ Aside0 (wc.heap[gb189]? = some (.cells #[.int .u64 a0_0, (.slice (some ad190) l0_1.length c0_1)] 30 (0, 0))) ∧ Aside0 (Below w.heap.size w wc))
         case first =>
          have H := HC12.out
          clear HC12
          by_cases c14 : ((rd_L1 l0_1 x4_2).length : Int) = 0
          ·
           rw [if_pos c14] at H
           have c14b0 : (((rd_L1 l0_1 x4_2).length : Int) == 0) = true := beq_iff_eq.mpr c14
           have c14b1 : (((rd_L1 l0_1 x4_2).length : Int) != 0) = false := bne_eq_false_iff_eq.mpr c14
           clear c14
           (first | rw [c14b0] | (simp only [i64_w, i32_w]; rw [c14b0]) | skip)
           have H' := Aside0.mk H
           clear H
           go_wp2
           go_meet
           case rel => exact ⟨_, (true), (by first | rfl | (simp; done) | (simp [*]; done)), H', ⟨by have := HJ1.out; have := HK2.out; first | omega | exact Nat.le_refl _⟩, ⟨pB BK189⟩, ⟨pH HB⟩⟩
          ·
           rw [if_neg c14] at H
           have c14b0 : (((rd_L1 l0_1 x4_2).length : Int) == 0) = false := beq_eq_false_iff_ne.mpr c14
           have c14b1 : (((rd_L1 l0_1 x4_2).length : Int) != 0) = true := bne_iff_ne.mpr c14
           have c14b2 : ¬ ((rd_L1 l0_1 x4_2) = []) := fun h_ => c14 (by rw [h_]; rfl)
           (first | rw [c14b0] | (simp only [i64_w, i32_w]; rw [c14b0]) | skip)
           by_cases c15 : ((rd_L1 l0_1 x4_2).length : Int) > 256
           ·
            rw [if_pos c15] at H
            have c15b0 : decide (256 < ((rd_L1 l0_1 x4_2).length : Int)) = true := decide_eq_true c15
            have c15b1 : decide (256 < (rd_L1 l0_1 x4_2).length) = true := decide_eq_true (by omega)
            clear c15
            have H' := Aside0.mk H
            clear H
            go_wp2
            go_meet
            case rel => exact ⟨_, (true), (by first | rfl | (simp; done) | (simp [*]; done)), H', ⟨by have := HJ1.out; have := HK2.out; first | omega | exact Nat.le_refl _⟩, ⟨pB BK189⟩, ⟨pH HB⟩⟩
           ·
            rw [if_neg c15] at H
            have c15b0 : decide (256 < ((rd_L1 l0_1 x4_2).length : Int)) = false := decide_eq_false c15
            have c15b1 : decide (256 < (rd_L1 l0_1 x4_2).length) = false := decide_eq_false (by omega)
            clear c15
            by_cases c16 : 0 < (l0_1.length : Int)
            ·
             rw [if_pos c16] at H
             have c16b0 : decide (0 < (l0_1.length : Int)) = true := decide_eq_true c16
             have c16b1 : decide (0 < l0_1.length) = true := decide_eq_true (by omega)
             clear c16
             have H' := Aside0.mk H
             clear H
             have hcz17_0 : wr.cell? ⟨gb189, 0, none⟩ = some (.int .u64 a0_0) := (blk_cell BK189.out 0).trans rfl
             have hcz17_1 : wr.cell? ⟨gb189, 1, none⟩ = some (.slice (some ad190) l0_1.length c0_1) := (blk_cell BK189.out 1).trans rfl
             have hfz17_0 := blk_frozen BK189.out 0
             have hfz17_1 := blk_frozen BK189.out 1
             have p191 : 0 ≤ (0 : Int) := (by omega)
             have q191 : 0 < (l0_1.length : Int) := of_decide_eq_true (by first | (with_reducible assumption) | assumption)
             obtain ⟨ad191, A191_0, c191_0, e191, hx191_0, hl191_0, hi191_0⟩ := at_L1 HR0_1.out 0 p191 q191
             obtain rfl : ad190 = ad191 := (by injection e191)
             have qi191 : (0 < l0_1.length) = True := eq_true (by omega)
             (try rw [show ((0 : Int)).toNat = 0 from rfl] at hx191_0)
             (try rw [Addr.add_zero'] at hx191_0)
             replace hx191_0 := (HB.out.cell (World.block_lt_of_cell? w _ hx191_0)).trans hx191_0
             have HR191_0 := Aside0.mk hi191_0
             have HC191_0 := Aside0.mk hl191_0
             clear hi191_0 hl191_0
             replace p191 := eq_true p191
             replace q191 := eq_true q191
             go_wp2
             go_meet
             case rel => exact ⟨_, ((((rd_L1 l0_1 x4_2).length : Int) != ((rd_L1 l0_1 0).length : Int))), (by first | rfl | (simp; done) | (simp [*]; done)), H', ⟨by have := HJ1.out; have := HK2.out; first | omega | exact Nat.le_refl _⟩, ⟨pB BK189⟩, ⟨pH HB⟩⟩
            ·
             rw [if_neg c16] at H
             exact absurd H (by simp)
         case rest =>
          clear HC12
          try clear c1
          try clear p1
          try clear q1
          try clear hx1
          try clear qi1
          try clear p2
          try clear c5
          try clear c5b0
          try clear c5b1
          try clear c6
          try clear c6b0
          try clear c6b1
          try clear c7
          try clear c7b0
          try clear c7b1
          try clear c8
          try clear c9
          try clear c9b0
          try clear c10
          try clear c10b0
          try clear c11
          try clear c11b0
          try clear c13
          try clear c14
          try clear c14b0
          try clear c14b1
          try clear c14b2
          try clear c15
          try clear c15b0
          try clear c15b1
          try clear c16
          try clear c16b0
          try clear c16b1
          try clear hcz13_0
          try clear hcz13_1
          try clear hcz17_0
          try clear hcz17_1
          try clear hcz4_0
          try clear hcz4_1
          try clear hfz13_0
          try clear hfz13_1
          try clear hfz17_0
          try clear hfz17_1
          try clear hfz4_0
          try clear hfz4_1
          try clear hx190_0
          try clear hx191_0
          try clear p190
          try clear p191
          try clear p2
          try clear q190
          try clear q191
          obtain ⟨kq, x49_11, rfl, HA, HJ11, BK189, HB⟩ := hcut
          cases kq with
          | zero => exact absurd HA.out (by simp [rillmeterref12_Right.j2])
          | succ kj11 =>
           have H := HA.out
           clear HA
           simp only [rillmeterref12_Right.j2] at H
           by_cases c18 : x49_11 = true
           ·
            subst c18
            have H1 : (some false) = some r := by rw [if_pos rfl] at H; exact H
            clear H
            have H := H1
            clear H1
            obtain rfl := Option.some.inj H
            go_wp2
            go_ret
            exact ⟨by first | rfl | (simp [errW_none, errW_some] <;> rfl) | (simp [*, errW_none, errW_some] <;> rfl), by repeat (first | (with_reducible first | exact HB.out | apply below_alloc | apply pw_below_drewN | apply below_drew1 | refine below_set ?_ GE189.out) | exact HB.out)⟩
           ·
            replace c18 := Bool.eq_false_iff.mpr c18
            subst c18
            have H1 : (rillmeterref12_Right.l1 kj11 (l0_1.length : Int) x4_2 ((rd_L1 l0_1 x4_2).length : Int) 0 a0_0 l0_1) = some r := by rw [if_neg (show ¬ (false = true) by decide)] at H; exact H
            clear H
            have H := H1
            clear H1
            have H' := Aside0.mk H
            clear H
            go_wp2
            go_loopg [6] kj11 (fun kq v6 w' => ∃ (x6_4 : Int), v6 = .int .i64 x6_4 ∧ Aside0 (rillmeterref12_Right.l1 kq (l0_1.length : Int) x4_2 ((rd_L1 l0_1 x4_2).length : Int) x6_4 a0_0 l0_1 = some r) ∧ Aside0 (kq ≤ kj11) ∧ Aside0 (w'.heap[gb189]? = some (.cells #[.int .u64 a0_0, (.slice (some ad190) l0_1.length c0_1)] 30 (0, 0))) ∧ Aside0 (Below w.heap.size w w'))
            case atStart => exact ⟨(0), (by first | rfl | (simp; done) | (simp [*]; done)), H', ⟨Nat.le_refl _⟩, ⟨pB BK189⟩, ⟨pH HB⟩⟩
            case round =>
             clear H'
             try clear c1
             try clear p1
             try clear q1
             try clear hx1
             try clear qi1
             try clear p2
             try clear c5
             try clear c5b0
             try clear c5b1
             try clear c6
             try clear c6b0
             try clear c6b1
             try clear c7
             try clear c7b0
             try clear c7b1
             try clear c8
             try clear c9
             try clear c9b0
             try clear c10
             try clear c10b0
             try clear c11
             try clear c11b0
             try clear c13
             try clear c14
             try clear c14b0
             try clear c14b1
             try clear c14b2
             try clear c15
             try clear c15b0
             try clear c15b1
             try clear c16
             try clear c16b0
             try clear c16b1
             try clear c18
             try clear hcz13_0
             try clear hcz13_1
             try clear hcz17_0
             try clear hcz17_1
             try clear hcz4_0
             try clear hcz4_1
             try clear hfz13_0
             try clear hfz13_1
             try clear hfz17_0
             try clear hfz17_1
             try clear hfz4_0
             try clear hfz4_1
             try clear hx190_0
             try clear hx191_0
             try clear p1
             try clear p190
             try clear p191
             try clear p2
             try clear q1
             try clear q190
             try clear q191
             obtain ⟨x6_4, rfl, HA, HK4, BK189, HB⟩ := hrel
             cases gk with
             | zero => exact absurd HA.out (by simp [rillmeterref12_Right.l1])
             | succ k4 =>
              have H := HA.out
              clear HA
              simp only [rillmeterref12_Right.l1] at H
              by_cases c19 : x6_4 < ((rd_L1 l0_1 x4_2).length : Int)
              ·
               rw [if_pos c19] at H
               have c19b0 : decide (x6_4 < ((rd_L1 l0_1 x4_2).length : Int)) = true := decide_eq_true c19
               clear c19
               by_cases c20 : 0 ≤ x4_2
               ·
                rw [if_pos c20] at H
                have c20b0 : decide (0 ≤ x4_2) = true := decide_eq_true c20
                clear c20
                by_cases c21 : x4_2 < (l0_1.length : Int)
                ·
                 rw [if_pos c21] at H
                 have c21b0 : decide (x4_2 < (l0_1.length : Int)) = true := decide_eq_true c21
                 clear c21
                 by_cases c22 : 0 ≤ x6_4
                 ·
                  rw [if_pos c22] at H
                  have c22b0 : decide (0 ≤ x6_4) = true := decide_eq_true c22
                  clear c22
                  by_cases c23 : x6_4 < ((rd_L1 l0_1 x4_2).length : Int)
                  ·
                   rw [if_pos c23] at H
                   have c23b0 : decide (x6_4 < ((rd_L1 l0_1 x4_2).length : Int)) = true := decide_eq_true c23
                   clear c23
                   replace H := Option.bind_eq_some_iff.mp H
                   obtain ⟨t194, A240, H⟩ := H
                   replace H : (if t194 = true then (rillmeterref12_Right.l1 k4 (l0_1.length : Int) x4_2 ((rd_L1 l0_1 x4_2).length : Int) (wrap64 (x6_4 + 1)) a0_0 l0_1) else (some false)) = some r := H
                   have A24 := Aside0.mk A240
                   clear A240
                   by_cases c25 : t194 = true
                   ·
                    subst c25
                    have H1 : (rillmeterref12_Right.l1 k4 (l0_1.length : Int) x4_2 ((rd_L1 l0_1 x4_2).length : Int) (wrap64 (x6_4 + 1)) a0_0 l0_1) = some r := by rw [if_pos rfl] at H; exact H
                    clear H
                    have H := H1
                    clear H1
                    have H' := Aside0.mk H
                    clear H
                    have hcz26_0 : wr.cell? ⟨gb189, 0, none⟩ = some (.int .u64 a0_0) := (blk_cell BK189.out 0).trans rfl
                    have hcz26_1 : wr.cell? ⟨gb189, 1, none⟩ = some (.slice (some ad190) l0_1.length c0_1) := (blk_cell BK189.out 1).trans rfl
                    have hfz26_0 := blk_frozen BK189.out 0
                    have hfz26_1 := blk_frozen BK189.out 1
                    have p192 : 0 ≤ (x4_2 : Int) := of_decide_eq_true (by first | (with_reducible assumption) | assumption)
                    have q192 : x4_2 < (l0_1.length : Int) := of_decide_eq_true (by first | (with_reducible assumption) | assumption)
                    obtain ⟨ad192, A192_0, c192_0, e192, hx192_0, hl192_0, hi192_0⟩ := at_L1 HR0_1.out x4_2 p192 q192
                    obtain rfl : ad190 = ad192 := (by injection e192)
                    replace hx192_0 := (HB.out.cell (World.block_lt_of_cell? w _ hx192_0)).trans hx192_0
                    have HR192_0 := Aside0.mk hi192_0
                    have HC192_0 := Aside0.mk hl192_0
                    clear hi192_0 hl192_0
                    replace p192 := eq_true p192
                    replace q192 := eq_true q192
                    have p193 : 0 ≤ (x6_4 : Int) := of_decide_eq_true (by first | (with_reducible assumption) | assumption)
                    have q193 : x6_4 < ((rd_L1 l0_1 x4_2).length : Int) := of_decide_eq_true (by first | (with_reducible assumption) | assumption)
                    obtain ⟨ad193, e193, hx193_0⟩ := Kd.at_int HR192_0.out x6_4 p193 q193
                    cases e193
                    replace hx193_0 := (HB.out.cell (World.block_lt_of_cell? w _ hx193_0)).trans hx193_0
                    replace p193 := eq_true p193
                    replace q193 := eq_true q193
                    go_wp2_with (first | ((with_reducible refine gate_callee (f := 21) rfl ?_); refine goesM_ (some 63) Try.func21 #[.int .i64 (rd (rd_L1 l0_1 x4_2) x6_4)] ?_; (with_reducible refine (rillmeterref12_Fits.calls (rd (rd_L1 l0_1 x4_2) x6_4) true _ A24.out).mono ?_); rintro e w' ⟨rfl, ⟨nd, rfl⟩⟩; refine ⟨_, rfl, ?_⟩))
                    go_roundg k4
                    case measure => have := HJ1.out; have := HK2.out; have := HJ11.out; have := HK4.out; omega
                    case rel => exact ⟨(wrap64 (x6_4 + 1)), (by first | rfl | (simp; done) | (simp [*]; done)), H', ⟨by have := HJ1.out; have := HK2.out; have := HJ11.out; have := HK4.out; omega⟩, ⟨pB BK189⟩, ⟨pH HB⟩⟩
                   ·
                    replace c25 := Bool.eq_false_iff.mpr c25
                    subst c25
                    have H1 : (some false) = some r := by rw [if_neg (show ¬ (false = true) by decide)] at H; exact H
                    clear H
                    have H := H1
                    clear H1
                    obtain rfl := Option.some.inj H
                    have hcz27_0 : wr.cell? ⟨gb189, 0, none⟩ = some (.int .u64 a0_0) := (blk_cell BK189.out 0).trans rfl
                    have hcz27_1 : wr.cell? ⟨gb189, 1, none⟩ = some (.slice (some ad190) l0_1.length c0_1) := (blk_cell BK189.out 1).trans rfl
                    have hfz27_0 := blk_frozen BK189.out 0
                    have hfz27_1 := blk_frozen BK189.out 1
                    have p192 : 0 ≤ (x4_2 : Int) := of_decide_eq_true (by first | (with_reducible assumption) | assumption)
                    have q192 : x4_2 < (l0_1.length : Int) := of_decide_eq_true (by first | (with_reducible assumption) | assumption)
                    obtain ⟨ad192, A192_0, c192_0, e192, hx192_0, hl192_0, hi192_0⟩ := at_L1 HR0_1.out x4_2 p192 q192
                    obtain rfl : ad190 = ad192 := (by injection e192)
                    replace hx192_0 := (HB.out.cell (World.block_lt_of_cell? w _ hx192_0)).trans hx192_0
                    have HR192_0 := Aside0.mk hi192_0
                    have HC192_0 := Aside0.mk hl192_0
                    clear hi192_0 hl192_0
                    replace p192 := eq_true p192
                    replace q192 := eq_true q192
                    have p193 : 0 ≤ (x6_4 : Int) := of_decide_eq_true (by first | (with_reducible assumption) | assumption)
                    have q193 : x6_4 < ((rd_L1 l0_1 x4_2).length : Int) := of_decide_eq_true (by first | (with_reducible assumption) | assumption)
                    obtain ⟨ad193, e193, hx193_0⟩ := Kd.at_int HR192_0.out x6_4 p193 q193
                    cases e193
                    replace hx193_0 := (HB.out.cell (World.block_lt_of_cell? w _ hx193_0)).trans hx193_0
                    replace p193 := eq_true p193
                    replace q193 := eq_true q193
                    go_wp2_with (first | ((with_reducible refine gate_callee (f := 21) rfl ?_); refine goesM_ (some 63) Try.func21 #[.int .i64 (rd (rd_L1 l0_1 x4_2) x6_4)] ?_; (with_reducible refine (rillmeterref12_Fits.calls (rd (rd_L1 l0_1 x4_2) x6_4) false _ A24.out).mono ?_); rintro e w' ⟨rfl, ⟨nd, rfl⟩⟩; refine ⟨_, rfl, ?_⟩))
                    go_ret
                    exact ⟨by first | rfl | (simp [errW_none, errW_some] <;> rfl) | (simp [*, errW_none, errW_some] <;> rfl), by repeat (first | (with_reducible first | exact HB.out | apply below_alloc | apply pw_below_drewN | apply below_drew1 | refine below_set ?_ GE189.out) | exact HB.out)⟩
                  ·
                   rw [if_neg c23] at H
                   exact absurd H (by simp)
                 ·
                  rw [if_neg c22] at H
                  exact absurd H (by simp)
                ·
                 rw [if_neg c21] at H
                 exact absurd H (by simp)
               ·
                rw [if_neg c20] at H
                exact absurd H (by simp)
              ·
               rw [if_neg c19] at H
               have c19b0 : decide (x6_4 < ((rd_L1 l0_1 x4_2).length : Int)) = false := decide_eq_false c19
               clear c19
               have H' := Aside0.mk H
               clear H
               go_wp2
               go_roundg k4
               case measure => have := HJ1.out; have := HK2.out; have := HJ11.out; have := HK4.out; omega
               case rel => exact ⟨(wrap64 (x4_2 + 1)), (by first | rfl | (simp; done) | (simp [*]; done)), H', ⟨by have := HJ1.out; have := HK2.out; have := HJ11.out; have := HK4.out; omega⟩, ⟨pB BK189⟩, ⟨pH HB⟩⟩
        ·
         rw [if_neg c11] at H
         exact absurd H (by simp)
       ·
        rw [if_neg c10] at H
        exact absurd H (by simp)
      ·
       rw [if_neg c9] at H
       have c9b0 : decide (x4_2 < (l0_1.length : Int)) = false := decide_eq_false c9
       clear c9
       obtain rfl := Option.some.inj H
       go_wp2
       go_ret
       exact ⟨by first | rfl | (simp [errW_none, errW_some] <;> rfl) | (simp [*, errW_none, errW_some] <;> rfl), by repeat (first | (with_reducible first | exact HB.out | apply below_alloc | apply pw_below_drewN | apply below_drew1 | refine below_set ?_ GE189.out) | exact HB.out)⟩

end Go.Proofs.Yteaeigpeaneicaa.G
end

section
-- Printed by gprint.py: a program of this session over the kit's print. Not trusted: Lean checks it.
namespace Go.Proofs.Yteaeigpeaneicaa.G
open Go.RowKit Go.Proofs.YteaeigpeaneicaaW.PrintWords Go.Proofs.YteaeigpeaneicaaW.PrintLast Go.Proofs.YteaeigpeaneicaaW.PrintMore
attribute [local go_sem] max2_int min2_int max_two min_two max_three min_three max_four min_four   -- for this text's walks alone
set_option linter.unusedVariables false
set_option linter.unusedSimpArgs false

/-! ### rillmeterref12_Cell: function 19 -/
def rillmeterref12_Cell.f (k : Nat) (a0 : Int) (a1 : ByteArray) (a2 : Int) (a3 : Int) : Option (Int) := (rillmeterref02_Row.f k a0 (wrap64 (2 * a2))).bind fun t280 => ((rillmeterref02_Cell.f k t280 a1 a3).bind fun t281 => (some t281))
theorem rillmeterref12_Cell.mono : ∀ a0 a1 a2 a3 k, LeO (rillmeterref12_Cell.f k a0 a1 a2 a3) (rillmeterref12_Cell.f (k + 1) a0 a1 a2 a3) := by
  intro a0 a1 a2 a3 k
  unfold rillmeterref12_Cell.f
  repeat' first
      | (with_reducible exact rillmeterref02_Cell.mono _ _ _ _)
      | (with_reducible exact rillmeterref02_Row.mono _ _ _)
      | (with_reducible exact LeO.refl _)
      | (with_reducible exact LeO.none _)
      | (with_reducible refine LeO.ite ?_ ?_)
      | (with_reducible refine LeO.bind ?_ (fun _ => ?_))
      | exact rillmeterref02_Cell.mono _ _ _ _
      | exact rillmeterref02_Row.mono _ _ _
      | exact LeO.none _
      | refine LeO.ite ?_ ?_
      | refine LeO.bind ?_ (fun _ => ?_)
set_option maxHeartbeats 8000000 in
set_option maxRecDepth 100000 in
theorem rillmeterref12_Cell.calls (k : Nat) (a0 : Int) (a1 : ByteArray) (a2 : Int) (a3 : Int) (r : Int) (w : World) (h : rillmeterref12_Cell.f k a0 a1 a2 a3 = some r) :
    Calls Try.prog 19 #[.int .u64 a0, .string a1, .int .i64 a2, .int .i64 a3] w fun e w' => e = .returned (.int .i64 r) ∧ Below w.heap.size w w' := by
  have HB := Aside0.mk (Below.refl w.heap.size w)
  have H : ((rillmeterref02_Row.f k a0 (wrap64 (2 * a2))).bind fun t280 => ((rillmeterref02_Cell.f k t280 a1 a3).bind fun t281 => (some t281))) = some r := h
  clear h
  replace H := Option.bind_eq_some_iff.mp H
  obtain ⟨t280, A50, H⟩ := H
  replace H : ((rillmeterref02_Cell.f k t280 a1 a3).bind fun t281 => (some t281)) = some r := H
  have A5 := Aside0.mk A50
  clear A50
  replace H := Option.bind_eq_some_iff.mp H
  obtain ⟨t281, A60, H⟩ := H
  replace H : (some t281) = some r := H
  have A6 := Aside0.mk A60
  clear A60
  obtain rfl := Option.some.inj H
  go_enter Try.func19, Try.ntmps19
  go_wp2_with (first | ((with_reducible refine gate_callee (f := 37) rfl ?_); refine goesL_ (some 12) rfl rfl Try.func37 (by kernel_rfl) rfl #[.int .u64 a0, .int .i64 (wrap64 (2 * a2))] rfl (by (try simp only [List.map_toArray, List.map_cons, List.map_nil]); first | done | rfl | (simp only [List.length_drop, List.length_take]; rfl)) ?_; (with_reducible refine (rillmeterref02_Row.calls k a0 (wrap64 (2 * a2)) t280 _ A5.out).mono ?_); rintro e w' ⟨rfl, ⟨nd, rfl⟩⟩; refine ⟨_, rfl, ?_⟩) | ((with_reducible refine gate_callee (f := 36) rfl ?_); refine goesL_ (some 15) rfl rfl Try.func36 (by kernel_rfl) rfl #[.int .u64 t280, .string a1, .int .i64 a3] rfl (by (try simp only [List.map_toArray, List.map_cons, List.map_nil]); first | done | rfl | (simp only [List.length_drop, List.length_take]; rfl)) ?_; (with_reducible refine (rillmeterref02_Cell.calls k t280 a1 a3 t281 _ A6.out).mono ?_); rintro e w7 ⟨rfl, hb⟩; refine ⟨_, rfl, ?_⟩; have n0_ := Aside0.mk (below_step (by repeat (first | (with_reducible first | exact HB.out | apply below_alloc | apply pw_below_drewN | apply below_drew1) | exact HB.out)) hb); clear HB; have HB := n0_; clear n0_; (try clear hb); (try clear hb2); (try clear hk); (try clear hi)))
  go_ret
  exact ⟨by first | rfl | (simp [errW_none, errW_some] <;> rfl) | (simp [*, errW_none, errW_some] <;> rfl), by repeat (first | (with_reducible first | exact HB.out | apply below_alloc | apply pw_below_drewN | apply below_drew1) | exact HB.out)⟩

end Go.Proofs.Yteaeigpeaneicaa.G
end

section
-- Printed by gprint.py: a program of this session over the kit's print. Not trusted: Lean checks it.
namespace Go.Proofs.Yteaeigpeaneicaa.G
open Go.RowKit Go.Proofs.YteaeigpeaneicaaW.PrintWords Go.Proofs.YteaeigpeaneicaaW.PrintLast Go.Proofs.YteaeigpeaneicaaW.PrintMore
attribute [local go_sem] max2_int min2_int max_two min_two max_three min_three max_four min_four   -- for this text's walks alone
set_option linter.unusedVariables false
set_option linter.unusedSimpArgs false

/-! ### rillmeterref12_Sign: function 38 -/
def rillmeterref12_Sign.f (k : Nat) (a0 : Int) (a1 : ByteArray) (a2 : Int) : Option (Int) := (rillmeterref02_Row.f k a0 (wrap64 ((wrap64 (2 * a2)) + 1))).bind fun t283 => ((rillmeterref02_Sign.f k t283 a1).bind fun t284 => (some t284))
theorem rillmeterref12_Sign.mono : ∀ a0 a1 a2 k, LeO (rillmeterref12_Sign.f k a0 a1 a2) (rillmeterref12_Sign.f (k + 1) a0 a1 a2) := by
  intro a0 a1 a2 k
  unfold rillmeterref12_Sign.f
  repeat' first
      | (with_reducible exact rillmeterref02_Row.mono _ _ _)
      | (with_reducible exact rillmeterref02_Sign.mono _ _ _)
      | (with_reducible exact LeO.refl _)
      | (with_reducible exact LeO.none _)
      | (with_reducible refine LeO.ite ?_ ?_)
      | (with_reducible refine LeO.bind ?_ (fun _ => ?_))
      | exact rillmeterref02_Row.mono _ _ _
      | exact rillmeterref02_Sign.mono _ _ _
      | exact LeO.none _
      | refine LeO.ite ?_ ?_
      | refine LeO.bind ?_ (fun _ => ?_)
set_option maxHeartbeats 8000000 in
set_option maxRecDepth 100000 in
theorem rillmeterref12_Sign.calls (k : Nat) (a0 : Int) (a1 : ByteArray) (a2 : Int) (r : Int) (w : World) (h : rillmeterref12_Sign.f k a0 a1 a2 = some r) :
    Calls Try.prog 38 #[.int .u64 a0, .string a1, .int .i64 a2] w fun e w' => e = .returned (.int .i64 r) ∧ Below w.heap.size w w' := by
  have HB := Aside0.mk (Below.refl w.heap.size w)
  have H : ((rillmeterref02_Row.f k a0 (wrap64 ((wrap64 (2 * a2)) + 1))).bind fun t283 => ((rillmeterref02_Sign.f k t283 a1).bind fun t284 => (some t284))) = some r := h
  clear h
  replace H := Option.bind_eq_some_iff.mp H
  obtain ⟨t283, A40, H⟩ := H
  replace H : ((rillmeterref02_Sign.f k t283 a1).bind fun t284 => (some t284)) = some r := H
  have A4 := Aside0.mk A40
  clear A40
  replace H := Option.bind_eq_some_iff.mp H
  obtain ⟨t284, A50, H⟩ := H
  replace H : (some t284) = some r := H
  have A5 := Aside0.mk A50
  clear A50
  obtain rfl := Option.some.inj H
  go_enter Try.func38, Try.ntmps38
  go_wp2_with (first | ((with_reducible refine gate_callee (f := 37) rfl ?_); refine goesL_ (some 11) rfl rfl Try.func37 (by kernel_rfl) rfl #[.int .u64 a0, .int .i64 (wrap64 ((wrap64 (2 * a2)) + 1))] rfl (by (try simp only [List.map_toArray, List.map_cons, List.map_nil]); first | done | rfl | (simp only [List.length_drop, List.length_take]; rfl)) ?_; (with_reducible refine (rillmeterref02_Row.calls k a0 (wrap64 ((wrap64 (2 * a2)) + 1)) t283 _ A4.out).mono ?_); rintro e w' ⟨rfl, ⟨nd, rfl⟩⟩; refine ⟨_, rfl, ?_⟩) | ((with_reducible refine gate_callee (f := 51) rfl ?_); refine goesL_ (some 13) rfl rfl Try.func51 (by kernel_rfl) rfl #[.int .u64 t283, .string a1] rfl (by (try simp only [List.map_toArray, List.map_cons, List.map_nil]); first | done | rfl | (simp only [List.length_drop, List.length_take]; rfl)) ?_; (with_reducible refine (rillmeterref02_Sign.calls k t283 a1 t284 _ A5.out).mono ?_); rintro e w6 ⟨rfl, hb⟩; refine ⟨_, rfl, ?_⟩; have n0_ := Aside0.mk (below_step (by repeat (first | (with_reducible first | exact HB.out | apply below_alloc | apply pw_below_drewN | apply below_drew1) | exact HB.out)) hb); clear HB; have HB := n0_; clear n0_; (try clear hb); (try clear hb2); (try clear hk); (try clear hi)))
  go_ret
  exact ⟨by first | rfl | (simp [errW_none, errW_some] <;> rfl) | (simp [*, errW_none, errW_some] <;> rfl), by repeat (first | (with_reducible first | exact HB.out | apply below_alloc | apply pw_below_drewN | apply below_drew1) | exact HB.out)⟩

end Go.Proofs.Yteaeigpeaneicaa.G
end
