/- Steps towards: For any sketch of small rows, right or wrong, and any key of at most a hundred bytes, what the program makes of the sketch by adding so many of the key, and what it tells of it, are what the document's own answer says; conditions: none beyond what the statement itself tells of its arguments. -/
import Derived.Test.YteaeigpeaneicaaCSignedTurns1
import Derived.Test.YteaeigpeaneicaaCSignedTurns2
import Derived.Test.YteaeigpeaneicaaCSignedTurns0
import Derived.Deep.Slices
import Derived.ChangeArms
import Derived.ChangeSame
import Derived.SizedLaws
import Derived.WideShapes
section
-- Printed by gprint.py: a program of this session over the kit's print. Not trusted: Lean checks it.
namespace Go.Proofs.Yteaeigpeaneicaa.G
open Go.RowKit Go.Proofs.YteaeigpeaneicaaW.PrintWords Go.Proofs.YteaeigpeaneicaaW.PrintLast Go.Proofs.YteaeigpeaneicaaW.PrintMore
attribute [local go_sem] max2_int min2_int max_two min_two max_three min_three max_four min_four   -- for this text's walks alone
set_option linter.unusedVariables false
set_option linter.unusedSimpArgs false

/-! ### rillmeterref12_Get: function 20 -/
mutual
def rillmeterref12_Get.l0 : Nat → ByteArray → List Int → Int → Int → List (List Int) → Option (Int)
 | 0, _, _, _, _, _ => none
 | k + 1, x1, x5, x6, x286000, x286001 => if x6 < (x286001.length : Int) then ((rillmeterref12_Sign.f k x286000 x1 x6).bind fun t286 => (if 0 ≤ x6 then ((rillmeterref12_Cell.f k x286000 x1 x6 ((rd_L1 x286001 x6).length : Int)).bind fun t289 => (if 0 ≤ t289 then (if t289 < ((rd_L1 x286001 x6).length : Int) then (if x5.length < 17592186044416 then (rillmeterref12_Get.l0 k x1 (x5 ++ [wrap64 (t286 * (rd (rd_L1 x286001 x6) t289))]) (wrap64 (x6 + 1)) x286000 x286001) else (none)) else (none)) else (none))) else (none))) else (rillmeterref12_Get.l1 k x5 0)
def rillmeterref12_Get.l1 : Nat → List Int → Int → Option (Int)
 | 0, _, _ => none
 | k + 1, x5, x7 => if x7 < (x5.length : Int) then (rillmeterref12_Get.l2 k x5 x7 0 0 0) else (some 0)
def rillmeterref12_Get.l2 : Nat → List Int → Int → Int → Int → Int → Option (Int)
 | 0, _, _, _, _, _ => none
 | k + 1, x5, x7, x8, x9, x10 => if x10 < (x5.length : Int) then (if 0 ≤ x10 then (if 0 ≤ x7 then (if x7 < (x5.length : Int) then (if (rd x5 x10) < (rd x5 x7) then (if (rd x5 x10) > (rd x5 x7) then (rillmeterref12_Get.l2 k x5 x7 (wrap64 (x8 + 1)) (wrap64 (x9 + 1)) (wrap64 (x10 + 1))) else (rillmeterref12_Get.l2 k x5 x7 (wrap64 (x8 + 1)) x9 (wrap64 (x10 + 1)))) else (if (rd x5 x10) > (rd x5 x7) then (rillmeterref12_Get.l2 k x5 x7 x8 (wrap64 (x9 + 1)) (wrap64 (x10 + 1))) else (rillmeterref12_Get.l2 k x5 x7 x8 x9 (wrap64 (x10 + 1))))) else (none)) else (none)) else (none)) else (if x8 ≤ (wrap64 ((x5.length : Int) / 2)) then (if x9 ≤ (wrap64 ((x5.length : Int) / 2)) then (if 0 ≤ x7 then (if x7 < (x5.length : Int) then (some (rd x5 x7)) else (none)) else (none)) else (rillmeterref12_Get.l1 k x5 (wrap64 (x7 + 1)))) else (rillmeterref12_Get.l1 k x5 (wrap64 (x7 + 1))))
end
def rillmeterref12_Get.f (k : Nat) (a0_0 : Int) (l0_1 : List (List Int)) (a1 : ByteArray) : Option (Int) := rillmeterref12_Get.l0 k a1 ([] : List Int) 0 a0_0 l0_1
theorem rillmeterref12_Get.mono_l : ∀ k, (∀ y0 y1 y2 y3 y4, LeO (rillmeterref12_Get.l0 k y0 y1 y2 y3 y4) (rillmeterref12_Get.l0 (k + 1) y0 y1 y2 y3 y4)) ∧ (∀ y0 y1, LeO (rillmeterref12_Get.l1 k y0 y1) (rillmeterref12_Get.l1 (k + 1) y0 y1)) ∧ (∀ y0 y1 y2 y3 y4, LeO (rillmeterref12_Get.l2 k y0 y1 y2 y3 y4) (rillmeterref12_Get.l2 (k + 1) y0 y1 y2 y3 y4))
 | 0 => ⟨fun _ _ _ _ _ r h => by simp [rillmeterref12_Get.l0] at h, fun _ _ r h => by simp [rillmeterref12_Get.l1] at h, fun _ _ _ _ _ r h => by simp [rillmeterref12_Get.l2] at h⟩
 | k + 1 => by
  obtain ⟨ih0, ih1, ih2⟩ := rillmeterref12_Get.mono_l k
  refine ⟨?_, ?_, ?_⟩
  ·
   intro y0 y1 y2 y3 y4
   unfold rillmeterref12_Get.l0
   repeat' first
   | (with_reducible exact ih0 _ _ _ _ _)
   | (with_reducible exact ih1 _ _)
   | (with_reducible exact ih2 _ _ _ _ _)
   | (with_reducible exact rillmeterref12_Cell.mono _ _ _ _ _)
   | (with_reducible exact rillmeterref12_Sign.mono _ _ _ _)
   | (with_reducible exact LeO.refl _)
   | (with_reducible exact LeO.none _)
   | (with_reducible refine LeO.ite ?_ ?_)
   | (with_reducible refine LeO.bind ?_ (fun _ => ?_))
   | exact ih0 _ _ _ _ _
   | exact ih1 _ _
   | exact ih2 _ _ _ _ _
   | exact rillmeterref12_Cell.mono _ _ _ _ _
   | exact rillmeterref12_Sign.mono _ _ _ _
   | exact LeO.none _
   | refine LeO.ite ?_ ?_
   | refine LeO.bind ?_ (fun _ => ?_)
  ·
   intro y0 y1
   unfold rillmeterref12_Get.l1
   repeat' first
   | (with_reducible exact ih0 _ _ _ _ _)
   | (with_reducible exact ih1 _ _)
   | (with_reducible exact ih2 _ _ _ _ _)
   | (with_reducible exact rillmeterref12_Cell.mono _ _ _ _ _)
   | (with_reducible exact rillmeterref12_Sign.mono _ _ _ _)
   | (with_reducible exact LeO.refl _)
   | (with_reducible exact LeO.none _)
   | (with_reducible refine LeO.ite ?_ ?_)
   | (with_reducible refine LeO.bind ?_ (fun _ => ?_))
   | exact ih0 _ _ _ _ _
   | exact ih1 _ _
   | exact ih2 _ _ _ _ _
   | exact rillmeterref12_Cell.mono _ _ _ _ _
   | exact rillmeterref12_Sign.mono _ _ _ _
   | exact LeO.none _
   | refine LeO.ite ?_ ?_
   | refine LeO.bind ?_ (fun _ => ?_)
  ·
   intro y0 y1 y2 y3 y4
   unfold rillmeterref12_Get.l2
   repeat' first
   | (with_reducible exact ih0 _ _ _ _ _)
   | (with_reducible exact ih1 _ _)
   | (with_reducible exact ih2 _ _ _ _ _)
   | (with_reducible exact rillmeterref12_Cell.mono _ _ _ _ _)
   | (with_reducible exact rillmeterref12_Sign.mono _ _ _ _)
   | (with_reducible exact LeO.refl _)
   | (with_reducible exact LeO.none _)
   | (with_reducible refine LeO.ite ?_ ?_)
   | (with_reducible refine LeO.bind ?_ (fun _ => ?_))
   | exact ih0 _ _ _ _ _
   | exact ih1 _ _
   | exact ih2 _ _ _ _ _
   | exact rillmeterref12_Cell.mono _ _ _ _ _
   | exact rillmeterref12_Sign.mono _ _ _ _
   | exact LeO.none _
   | refine LeO.ite ?_ ?_
   | refine LeO.bind ?_ (fun _ => ?_)
theorem rillmeterref12_Get.mono : ∀ a0 a1 a2 k, LeO (rillmeterref12_Get.f k a0 a1 a2) (rillmeterref12_Get.f (k + 1) a0 a1 a2) := by
 intro a0 a1 a2 k
 obtain ⟨ih0, ih1, ih2⟩ := rillmeterref12_Get.mono_l k
 unfold rillmeterref12_Get.f
 repeat' first
   | (with_reducible exact ih0 _ _ _ _ _)
   | (with_reducible exact ih1 _ _)
   | (with_reducible exact ih2 _ _ _ _ _)
   | (with_reducible exact rillmeterref12_Cell.mono _ _ _ _ _)
   | (with_reducible exact rillmeterref12_Sign.mono _ _ _ _)
   | (with_reducible exact LeO.refl _)
   | (with_reducible exact LeO.none _)
   | (with_reducible refine LeO.ite ?_ ?_)
   | (with_reducible refine LeO.bind ?_ (fun _ => ?_))
   | exact ih0 _ _ _ _ _
   | exact ih1 _ _
   | exact ih2 _ _ _ _ _
   | exact rillmeterref12_Cell.mono _ _ _ _ _
   | exact rillmeterref12_Sign.mono _ _ _ _
   | exact LeO.none _
   | refine LeO.ite ?_ ?_
   | refine LeO.bind ?_ (fun _ => ?_)
def rillmeterref12_Get.T5 : Bool × List (List Nat × List Nat) := (true, [([], []), ([], []), ([1], [1]), ([], []), ([], []), ([2, 3, 4], [2, 3, 4]), ([], []), ([6], [6]), ([], []), ([7, 8], [7, 8]), ([9], [9]), ([], []), ([11], [11]), ([], []), ([], []), ([], []), ([15], [15]), ([], []), ([16, 17], [16, 17]), ([18], [18]), ([19], [19]), ([12, 13, 14, 20, 5], [12, 13, 14, 20]), ([10, 21], [10, 21]), ([22], [22]), ([5, 23], [5, 23]), ([24], [24]), ([0, 25, 21], [0, 25]), ([26, 26, 0, 1, 2, 3, 4, 5, 6, 7, 8, 9, 10, 11, 12, 13, 14, 15, 16, 17, 18, 19, 20, 21, 22, 23, 24, 25, 26], [0, 26])])
def rillmeterref12_Get.B5 : List Nat := [0, 0, 2, 0, 0, 30, 0, 64, 0, 448, 960, 0, 2048, 0, 0, 0, 32768, 0, 229376, 491520, 1015808, 2095166, 4194302, 8388606, 16777214, 33554430, 67108863, 134217727]
theorem rillmeterref12_Get.tab5 : rtab .any (opsOf Try.f20 5) = rillmeterref12_Get.T5 := by kernel_rfl
theorem rillmeterref12_Get.bits5 : waitsOk rillmeterref12_Get.T5.2 rillmeterref12_Get.B5 = true := by kernel_rfl
def rillmeterref12_Get.T13 : Bool × List (List Nat × List Nat) := (true, [([], []), ([], []), ([0, 1], [0, 1]), ([2], [2]), ([], []), ([], []), ([4, 5], [4, 5]), ([6], [6]), ([3, 7], [3, 7])])
def rillmeterref12_Get.B13 : List Nat := [0, 0, 3, 7, 0, 0, 48, 112, 255]
theorem rillmeterref12_Get.tab13 : rtab .any (opsOf Try.f20 13) = rillmeterref12_Get.T13 := by kernel_rfl
theorem rillmeterref12_Get.bits13 : waitsOk rillmeterref12_Get.T13.2 rillmeterref12_Get.B13 = true := by kernel_rfl
def rillmeterref12_Get.T15 : Bool × List (List Nat × List Nat) := (true, [([], []), ([], []), ([0, 1], [0, 1]), ([2], [2]), ([], []), ([], []), ([4, 5], [4, 5]), ([6], [6]), ([3, 7], [3, 7])])
def rillmeterref12_Get.B15 : List Nat := [0, 0, 3, 7, 0, 0, 48, 112, 255]
theorem rillmeterref12_Get.tab15 : rtab .any (opsOf Try.f20 15) = rillmeterref12_Get.T15 := by kernel_rfl
theorem rillmeterref12_Get.bits15 : waitsOk rillmeterref12_Get.T15.2 rillmeterref12_Get.B15 = true := by kernel_rfl
set_option maxHeartbeats 8000000 in
set_option maxRecDepth 100000 in
theorem rillmeterref12_Get.calls (k : Nat) (a0_0 : Int) (A0_1 : Option Addr) (c0_1 : Nat) (l0_1 : List (List Int)) (a1 : ByteArray) (r : Int) (w : World) (hr0_1 : Kd.C (Kd.slice 3 (Kd.int .i64)) w A0_1 l0_1.length l0_1) (hc0_1 : l0_1.length ≤ c0_1) (h : rillmeterref12_Get.f k a0_0 l0_1 a1 = some r) :
  Calls Try.prog 20 #[.agg #[.int .u64 a0_0, .slice A0_1 l0_1.length c0_1], .string a1] w fun e w' => e = .returned (.int .i64 r) ∧ Below w.heap.size w w' := by
 have hu30 := Try.underlying30
 have HR0_1 := Aside0.mk hr0_1
 have HC0_1 := Aside0.mk hc0_1
 clear hr0_1 hc0_1
 have HB := Aside0.mk (Below.refl w.heap.size w)
 have H : (rillmeterref12_Get.l0 k a1 ([] : List Int) 0 a0_0 l0_1) = some r := h
 clear h
 have H' := Aside0.mk H
 clear H
 go_enter Try.func20, Try.ntmps20
 go_wp2_with (first | ((with_reducible refine gate_dst (N := 2) rfl ?_); (try (refine gate_guard (by rfl) ?_; dsimp only)); refine box_event ?hg (N := 2) ?hd (cs := #[.int .u64 a0_0, .slice A0_1 l0_1.length c0_1]) (t := 30) ?hr ?_; (case hd => rfl); (case hg => rfl); (case hr => first | (go_simp; done) | (go_simp; rfl)); intro gb285 hg w3 hbox hb; have BK285 := Aside0.mk (hbox); have GW285 := geN HB hg; have GE285 := geN HB hg; replace HB := stB HB hb; clear hb hbox hg))
 go_loopg [5, 6] k (fun kq v5 v6 w' => ∃ (x5_1 : List Int) (x6_1 : Int), v6 = .int .i64 x6_1 ∧ Aside0 (rillmeterref12_Get.l0 kq a1 x5_1 x6_1 a0_0 l0_1 = some r) ∧ Aside0 (kq ≤ k) ∧ Aside0 (Kd.R (Kd.int .i64) 3 w' w.heap.size (fun _ => True) v5 x5_1) ∧ Aside0 (w'.heap[gb285]? = some (.cells #[.int .u64 a0_0, (.slice A0_1 l0_1.length c0_1)] 30 (0, 0))) ∧ Aside0 (Below w.heap.size w w'))
 case atStart => exact ⟨(([] : List Int)), (0), (by first | rfl | (simp; done) | (simp [*]; done)), H', ⟨Nat.le_refl _⟩, ⟨by first | exact Kd.R_nil _ _ _ _ _ | exact Kd.N_nil _ _ _ _ _ | exact Kd.V_nil _ _ _ _ _ | exact Kd.Q_nil _ _ _ _ _ | exact Kd.S_nil _ _ _ _ _⟩, ⟨pB BK285⟩, ⟨pH HB⟩⟩
 case round =>
  clear H'
  try clear c2
  try clear p2
  obtain ⟨x5_1, x6_1, rfl, HA, HK1, HO_5, BK285, HB⟩ := hrel
  cases gk with
  | zero => exact absurd HA.out (by simp [rillmeterref12_Get.l0])
  | succ k1 =>
   have H := HA.out
   clear HA
   simp only [rillmeterref12_Get.l0] at H
   by_cases c4 : x6_1 < (l0_1.length : Int)
   ·
    rw [if_pos c4] at H
    have c4b0 : decide (x6_1 < (l0_1.length : Int)) = true := decide_eq_true c4
    clear c4
    replace H := Option.bind_eq_some_iff.mp H
    obtain ⟨t286, A50, H⟩ := H
    replace H : (if 0 ≤ x6_1 then ((rillmeterref12_Cell.f k1 a0_0 a1 x6_1 ((rd_L1 l0_1 x6_1).length : Int)).bind fun t289 => (if 0 ≤ t289 then (if t289 < ((rd_L1 l0_1 x6_1).length : Int) then (if x5_1.length < 17592186044416 then (rillmeterref12_Get.l0 k1 a1 (x5_1 ++ [wrap64 (t286 * (rd (rd_L1 l0_1 x6_1) t289))]) (wrap64 (x6_1 + 1)) a0_0 l0_1) else (none)) else (none)) else (none))) else (none)) = some r := H
    have A5 := Aside0.mk A50
    clear A50
    by_cases c6 : 0 ≤ x6_1
    ·
     rw [if_pos c6] at H
     have c6b0 : decide (0 ≤ x6_1) = true := decide_eq_true c6
     clear c6
     replace H := Option.bind_eq_some_iff.mp H
     obtain ⟨t289, A70, H⟩ := H
     replace H : (if 0 ≤ t289 then (if t289 < ((rd_L1 l0_1 x6_1).length : Int) then (if x5_1.length < 17592186044416 then (rillmeterref12_Get.l0 k1 a1 (x5_1 ++ [wrap64 (t286 * (rd (rd_L1 l0_1 x6_1) t289))]) (wrap64 (x6_1 + 1)) a0_0 l0_1) else (none)) else (none)) else (none)) = some r := H
     have A7 := Aside0.mk A70
     clear A70
     by_cases c8 : 0 ≤ t289
     ·
      rw [if_pos c8] at H
      have c8b0 : decide (0 ≤ t289) = true := decide_eq_true c8
      clear c8
      by_cases c9 : t289 < ((rd_L1 l0_1 x6_1).length : Int)
      ·
       rw [if_pos c9] at H
       have c9b0 : decide (t289 < ((rd_L1 l0_1 x6_1).length : Int)) = true := decide_eq_true c9
       clear c9
       by_cases c10 : x5_1.length < 17592186044416
       ·
        rw [if_pos c10] at H
        have LMc10 := Aside0.mk c10
        clear c10
        obtain ⟨y291, hy291⟩ : ∃ y_ : List Int, y_ = (x5_1 ++ [wrap64 (t286 * (rd (rd_L1 l0_1 x6_1) t289))]) := ⟨_, rfl⟩
        replace H : (rillmeterref12_Get.l0 k1 a1 y291 (wrap64 (x6_1 + 1)) a0_0 l0_1) = some r := by first | (rw [hy291]; with_reducible exact H) | (have H2_ := (Option.bind_some _ _).symm.trans H; rw [hy291]; with_reducible exact H2_) | (have H2_ := (Option.bind_some _ _).symm.trans H; with_reducible exact H2_) | with_reducible exact H | (rw [hy291]; exact H) | exact H
        have Ny291 := Aside0.mk hy291
        clear hy291
        have H' := Aside0.mk H
        clear H
        have hcz11_0 : wr.cell? ⟨gb285, 0, none⟩ = some (.int .u64 a0_0) := (blk_cell BK285.out 0).trans rfl
        have hcz11_1 : wr.cell? ⟨gb285, 1, none⟩ = some (.slice A0_1 l0_1.length c0_1) := (blk_cell BK285.out 1).trans rfl
        have hfz11_0 := blk_frozen BK285.out 0
        have hfz11_1 := blk_frozen BK285.out 1
        try go_wp2
        replace HO_5 := Aside0.mk (Kd.R_drew HO_5.out)
        replace BK285 := Aside0.mk (blk_drew BK285.out)
        replace HB := Aside0.mk (below_drew1 HB.out)
        have p287 : 0 ≤ (x6_1 : Int) := of_decide_eq_true (by first | (with_reducible assumption) | assumption)
        have q287 : x6_1 < (l0_1.length : Int) := of_decide_eq_true (by first | (with_reducible assumption) | assumption)
        obtain ⟨ad287, A287_0, c287_0, e287, hx287_0, hl287_0, hi287_0⟩ := at_L1 HR0_1.out x6_1 p287 q287
        have hw287_0 := hx287_0
        cases e287
        replace hx287_0 := (HB.out.cell (World.block_lt_of_cell? w _ hx287_0)).trans hx287_0
        have HR287_0 := Aside0.mk hi287_0
        have HC287_0 := Aside0.mk hl287_0
        clear hi287_0 hl287_0
        replace p287 := eq_true p287
        replace q287 := eq_true q287
        have p288 : 0 ≤ (x6_1 : Int) := of_decide_eq_true (by first | (with_reducible assumption) | assumption)
        have q288 : x6_1 < (l0_1.length : Int) := of_decide_eq_true (by first | (with_reducible assumption) | assumption)
        obtain ⟨ad288, A288_0, c288_0, e288, hx288_0, hl288_0, hi288_0⟩ := at_L1 HR0_1.out x6_1 p288 q288
        have hw288_0 := hx288_0
        obtain rfl : ad287 = ad288 := (by injection e288)
        replace hx288_0 := (HB.out.cell (World.block_lt_of_cell? w _ hx288_0)).trans hx288_0
        have HR288_0 := Aside0.mk hi288_0
        have HC288_0 := Aside0.mk hl288_0
        clear hi288_0 hl288_0
        replace p288 := eq_true p288
        replace q288 := eq_true q288
        have ea_ := Option.some.inj (hx287_0.symm.trans hx288_0)
        injection ea_ with ea_ en_ ec_
        subst ea_
        subst ec_
        clear en_
        have p290 : 0 ≤ (t289 : Int) := of_decide_eq_true (by first | (with_reducible assumption) | assumption)
        have q290 : t289 < ((rd_L1 l0_1 x6_1).length : Int) := of_decide_eq_true (by first | (with_reducible assumption) | assumption)
        obtain ⟨ad290, e290, hx290_0⟩ := Kd.at_int HR287_0.out t289 p290 q290
        have hw290_0 := hx290_0
        cases e290
        replace hx290_0 := (HB.out.cell (World.block_lt_of_cell? w _ hx290_0)).trans hx290_0
        replace p290 := eq_true p290
        replace q290 := eq_true q290
        refine start_ (n := 28) (S := fun w' => w'.cell? ⟨gb285, 0, none⟩ = some (.int .u64 a0_0) ∧ w'.cell? ⟨gb285, 1, none⟩ = some (.slice (some ad287) l0_1.length c0_1) ∧ w'.cell? (ad287.add (x6_1).toNat) = some (.slice (some ad290) (rd_L1 l0_1 x6_1).length c287_0) ∧ w'.cell? (ad287.add (x6_1).toNat) = some (.slice (some ad290) (rd_L1 l0_1 x6_1).length c287_0) ∧ w'.cell? (ad290.add (t289).toNat) = some (.int .i64 (rd (rd_L1 l0_1 x6_1) t289))) (ds := []) #[false, false, false, false, false, false, false, false, false, false, false, false, false, false, false, false, false, false, false, false, false, false, false, false, false, false, false, false] (by kernel_rfl) rfl rfl ⟨(blk_cell BK285.out 0).trans rfl, (blk_cell BK285.out 1).trans rfl, ((HB.out.cell (World.block_lt_of_cell? w _ hw287_0)).trans hw287_0), ((HB.out.cell (World.block_lt_of_cell? w _ hw288_0)).trans hw288_0), ((HB.out.cell (World.block_lt_of_cell? w _ hw290_0)).trans hw290_0)⟩ (fun hHeld => ?_); refine with_tabW rillmeterref12_Get.tab5 rillmeterref12_Get.bits5 (fun HT_ HW_ => ?_)
        generalize wr.drew = w12 at HO_5 BK285 HB HR287_0 HR288_0 hx287_0 hx288_0 hx290_0 hHeld ⊢
        refine pure_ (i := 0) (N := some 18) (v := ?_) (a' := ?_) (mkB 28 1) rfl rfl (any_of HT_.out (by kernel_rfl)) (fun _ _ _ h => h) (Or.inl ⟨by rfl, ?_⟩) ?_ ?_
        rotate_left
        ·
         intro w'
         go_simp
         with_reducible rfl
        rotate_left
        ·
         simp only [Act.put, List.setIfInBounds_toArray, List.set_cons_zero, List.set_cons_succ, i64_w, i32_w]
         rfl
        refine pure_ (i := 1) (N := some 19) (v := ?_) (a' := ?_) (mkB 28 3) rfl rfl (any_of HT_.out (by kernel_rfl)) (fun _ _ _ h => h) (Or.inl ⟨by rfl, ?_⟩) ?_ ?_
        rotate_left
        ·
         intro w'
         go_simp
         with_reducible rfl
        rotate_left
        ·
         simp only [Act.put, List.setIfInBounds_toArray, List.set_cons_zero, List.set_cons_succ, i64_w, i32_w]
         rfl
        refine pure_ (i := 3) (N := some 21) (v := ?_) (a' := ?_) (mkB 28 11) rfl rfl (any_of HT_.out (by kernel_rfl)) (fun _ _ _ h => h) (Or.inl ⟨by rfl, ?_⟩) ?_ ?_
        rotate_left
        ·
         intro w'
         go_simp
         with_reducible rfl
        rotate_left
        ·
         simp only [Act.put, List.setIfInBounds_toArray, List.set_cons_zero, List.set_cons_succ, i64_w, i32_w]
         rfl
        refine pure_ (i := 4) (N := some 22) (v := ?_) (a' := ?_) (mkB 28 27) rfl rfl (any_of HT_.out (by kernel_rfl)) (fun _ _ _ h => h) (Or.inl ⟨by rfl, ?_⟩) ?_ ?_
        rotate_left
        ·
         intro w'
         go_simp
         with_reducible rfl
        rotate_left
        ·
         simp only [Act.put, List.setIfInBounds_toArray, List.set_cons_zero, List.set_cons_succ, i64_w, i32_w]
         rfl
        refine pure_ (i := 6) (N := some 24) (v := ?_) (a' := ?_) (mkB 28 91) rfl rfl (any_of HT_.out (by kernel_rfl)) (fun _ _ _ h => h) (Or.inl ⟨by rfl, ?_⟩) ?_ ?_
        rotate_left
        ·
         intro w'
         go_simp
         with_reducible rfl
        rotate_left
        ·
         simp only [Act.put, List.setIfInBounds_toArray, List.set_cons_zero, List.set_cons_succ, i64_w, i32_w]
         rfl
        refine pure_ (i := 8) (N := some 26) (v := ?_) (a' := ?_) (mkB 28 347) rfl rfl (any_of HT_.out (by kernel_rfl)) (fun _ _ _ h => h) (Or.inl ⟨by rfl, ?_⟩) ?_ ?_
        rotate_left
        ·
         intro w'
         go_simp
         with_reducible rfl
        rotate_left
        ·
         simp only [Act.put, List.setIfInBounds_toArray, List.set_cons_zero, List.set_cons_succ, i64_w, i32_w]
         rfl
        refine pure_ (i := 11) (N := some 29) (v := ?_) (a' := ?_) (mkB 28 2395) rfl rfl (any_of HT_.out (by kernel_rfl)) (fun _ _ _ h => h) (Or.inl ⟨by rfl, ?_⟩) ?_ ?_
        rotate_left
        ·
         intro w'
         go_simp
         with_reducible rfl
        rotate_left
        ·
         simp only [Act.put, List.setIfInBounds_toArray, List.set_cons_zero, List.set_cons_succ, i64_w, i32_w]
         rfl
        refine pure_ (i := 13) (N := some 31) (v := ?_) (a' := ?_) (mkB 28 10587) rfl rfl (any_of HT_.out (by kernel_rfl)) (fun _ _ _ h => h) (Or.inl ⟨by rfl, ?_⟩) ?_ ?_
        rotate_left
        ·
         intro w'
         go_simp
         with_reducible rfl
        rotate_left
        ·
         simp only [Act.put, List.setIfInBounds_toArray, List.set_cons_zero, List.set_cons_succ, i64_w, i32_w]
         rfl
        refine pure_ (i := 14) (N := some 32) (v := ?_) (a' := ?_) (mkB 28 26971) rfl rfl (any_of HT_.out (by kernel_rfl)) (fun _ _ _ h => h) (Or.inl ⟨by rfl, ?_⟩) ?_ ?_
        rotate_left
        ·
         intro w'
         go_simp
         with_reducible rfl
        rotate_left
        ·
         simp only [Act.put, List.setIfInBounds_toArray, List.set_cons_zero, List.set_cons_succ, i64_w, i32_w]
         rfl
        refine pure_ (i := 15) (N := some 33) (v := ?_) (a' := ?_) (mkB 28 59739) rfl rfl (any_of HT_.out (by kernel_rfl)) (fun _ _ _ h => h) (Or.inl ⟨by rfl, ?_⟩) ?_ ?_
        rotate_left
        ·
         intro w'
         go_simp
         with_reducible rfl
        rotate_left
        ·
         simp only [Act.put, List.setIfInBounds_toArray, List.set_cons_zero, List.set_cons_succ, i64_w, i32_w]
         rfl
        refine pure_ (i := 17) (N := some 35) (v := ?_) (a' := ?_) (mkB 28 190811) rfl rfl (any_of HT_.out (by kernel_rfl)) (fun _ _ _ h => h) (Or.inl ⟨by rfl, ?_⟩) ?_ ?_
        rotate_left
        ·
         intro w'
         go_simp
         with_reducible rfl
        rotate_left
        ·
         simp only [Act.put, List.setIfInBounds_toArray, List.set_cons_zero, List.set_cons_succ, i64_w, i32_w]
         rfl
        refine take_ (i := 2) (N := some 20) (v := ?_) (a' := ?_) (mkB 28 190815) rfl rfl (take_ofW HT_.out HW_.out (by kernel_rfl)) (fun _ _ _ h => h) (Or.inl ⟨by rfl, ?_⟩) hHeld ?_ ?_
        rotate_left
        ·
         rintro w' ⟨s0, s1, s2, s3, s4⟩
         go_simp
         with_reducible rfl
        rotate_left
        ·
         simp only [Act.put, List.setIfInBounds_toArray, List.set_cons_zero, List.set_cons_succ, i64_w, i32_w]
         rfl
        refine take_ (i := 7) (N := some 25) (v := ?_) (a' := ?_) (mkB 28 190943) rfl rfl (take_ofW HT_.out HW_.out (by kernel_rfl)) (fun _ _ _ h => h) (Or.inl ⟨by rfl, ?_⟩) hHeld ?_ ?_
        rotate_left
        ·
         rintro w' ⟨s0, s1, s2, s3, s4⟩
         go_simp
         with_reducible rfl
        rotate_left
        ·
         simp only [Act.put, List.setIfInBounds_toArray, List.set_cons_zero, List.set_cons_succ, i64_w, i32_w]
         rfl
        refine pure_ (i := 9) (N := some 27) (v := ?_) (a' := ?_) (mkB 28 191455) rfl rfl (any_of HT_.out (by kernel_rfl)) (fun _ _ _ h => h) (Or.inl ⟨by rfl, ?_⟩) ?_ ?_
        rotate_left
        ·
         intro w'
         go_simp
         with_reducible rfl
        rotate_left
        ·
         simp only [Act.put, List.setIfInBounds_toArray, List.set_cons_zero, List.set_cons_succ, i64_w, i32_w]
         rfl
        refine take_ (i := 10) (N := some 28) (v := ?_) (a' := ?_) (mkB 28 192479) rfl rfl (take_ofW HT_.out HW_.out (by kernel_rfl)) (fun _ _ _ h => h) (Or.inl ⟨by rfl, ?_⟩) hHeld ?_ ?_
        rotate_left
        ·
         rintro w' ⟨s0, s1, s2, s3, s4⟩
         go_simp
         with_reducible rfl
        rotate_left
        ·
         simp only [Act.put, List.setIfInBounds_toArray, List.set_cons_zero, List.set_cons_succ, i64_w, i32_w]
         rfl
        refine take_ (i := 12) (N := some 30) (v := ?_) (a' := ?_) (mkB 28 196575) rfl rfl (take_ofW HT_.out HW_.out (by kernel_rfl)) (fun _ _ _ h => h) (Or.inl ⟨by rfl, ?_⟩) hHeld ?_ ?_
        rotate_left
        ·
         rintro w' ⟨s0, s1, s2, s3, s4⟩
         go_simp
         with_reducible rfl
        rotate_left
        ·
         simp only [Act.put, List.setIfInBounds_toArray, List.set_cons_zero, List.set_cons_succ, i64_w, i32_w]
         rfl
        refine take_ (i := 16) (N := some 34) (v := ?_) (a' := ?_) (mkB 28 262111) rfl rfl (take_ofW HT_.out HW_.out (by kernel_rfl)) (fun _ _ _ h => h) (Or.inl ⟨by rfl, ?_⟩) hHeld ?_ ?_
        rotate_left
        ·
         rintro w' ⟨s0, s1, s2, s3, s4⟩
         go_simp
         with_reducible rfl
        rotate_left
        ·
         simp only [Act.put, List.setIfInBounds_toArray, List.set_cons_zero, List.set_cons_succ, i64_w, i32_w]
         rfl
        refine pure_ (i := 18) (N := some 36) (v := ?_) (a' := ?_) (mkB 28 524255) rfl rfl (any_of HT_.out (by kernel_rfl)) (fun _ _ _ h => h) (Or.inl ⟨by rfl, ?_⟩) ?_ ?_
        rotate_left
        ·
         intro w'
         go_simp
         with_reducible rfl
        rotate_left
        ·
         simp only [Act.put, List.setIfInBounds_toArray, List.set_cons_zero, List.set_cons_succ, i64_w, i32_w]
         rfl
        refine take_ (i := 19) (N := some 37) (v := ?_) (a' := ?_) (mkB 28 1048543) rfl rfl (take_ofW HT_.out HW_.out (by kernel_rfl)) (fun _ _ _ h => h) (Or.inl ⟨by rfl, ?_⟩) hHeld ?_ ?_
        rotate_left
        ·
         rintro w' ⟨s0, s1, s2, s3, s4⟩
         go_simp
         with_reducible rfl
        rotate_left
        ·
         simp only [Act.put, List.setIfInBounds_toArray, List.set_cons_zero, List.set_cons_succ, i64_w, i32_w]
         rfl
        refine pure_ (i := 20) (N := some 38) (v := ?_) (a' := ?_) (mkB 28 2097119) rfl rfl (any_of HT_.out (by kernel_rfl)) (fun _ _ _ h => h) (Or.inl ⟨by rfl, ?_⟩) ?_ ?_
        rotate_left
        ·
         intro w'
         go_simp
         with_reducible rfl
        rotate_left
        ·
         simp only [Act.put, List.setIfInBounds_toArray, List.set_cons_zero, List.set_cons_succ, i64_w, i32_w]
         rfl
        refine one_ (i := 5) (N := some 23) (mkB 28 2097151) rfl rfl (one_of HT_.out (by kernel_rfl)) (by decide) (fun K hK => ?_)
        refine goesN_ Try.func38 #[.int .u64 a0_0, .string a1, .int .i64 x6_1] ?_
        with_reducible refine (rillmeterref12_Sign.calls k1 a0_0 a1 x6_1 t286 _ A5.out).mono ?_
        rintro e w13 ⟨rfl, hb⟩
        refine ⟨_, rfl, ?_⟩
        replace HO_5 := Aside0.mk (Kd.R_below (pR HO_5) hb)
        replace BK285 := bB BK285 hb
        replace HB := stB HB hb
        (try clear hb)
        (try clear hb2)
        (try clear hk)
        (try clear hi)
        refine hK.out _ _ ⟨(blk_cell BK285.out 0).trans rfl, (blk_cell BK285.out 1).trans rfl, ((HB.out.cell (World.block_lt_of_cell? w _ hw287_0)).trans hw287_0), ((HB.out.cell (World.block_lt_of_cell? w _ hw288_0)).trans hw288_0), ((HB.out.cell (World.block_lt_of_cell? w _ hw290_0)).trans hw290_0)⟩ (fun hHeld => ?_)
        clear hK K
        refine norm_ (a' := ?_) ?_ ?_
        rotate_left
        ·
         show Act.put _ (some 23) _ = _
         simp only [Act.put, List.setIfInBounds_toArray, List.set_cons_zero, List.set_cons_succ, i64_w, i32_w]
         rfl
        refine one_ (i := 21) (N := some 39) (mkB 28 4194303) rfl rfl (one_of HT_.out (by kernel_rfl)) (by decide) (fun K hK => ?_)
        refine goesN_ Try.func19 #[.int .u64 a0_0, .string a1, .int .i64 x6_1, .int .i64 ((rd_L1 l0_1 x6_1).length : Int)] ?_
        with_reducible refine (rillmeterref12_Cell.calls k1 a0_0 a1 x6_1 ((rd_L1 l0_1 x6_1).length : Int) t289 _ A7.out).mono ?_
        rintro e w14 ⟨rfl, hb⟩
        refine ⟨_, rfl, ?_⟩
        replace HO_5 := Aside0.mk (Kd.R_below (pR HO_5) hb)
        replace BK285 := bB BK285 hb
        replace HB := stB HB hb
        (try clear hb)
        (try clear hb2)
        (try clear hk)
        (try clear hi)
        refine hK.out _ _ ⟨(blk_cell BK285.out 0).trans rfl, (blk_cell BK285.out 1).trans rfl, ((HB.out.cell (World.block_lt_of_cell? w _ hw287_0)).trans hw287_0), ((HB.out.cell (World.block_lt_of_cell? w _ hw288_0)).trans hw288_0), ((HB.out.cell (World.block_lt_of_cell? w _ hw290_0)).trans hw290_0)⟩ (fun hHeld => ?_)
        clear hK K
        refine norm_ (a' := ?_) ?_ ?_
        rotate_left
        ·
         show Act.put _ (some 39) _ = _
         simp only [Act.put, List.setIfInBounds_toArray, List.set_cons_zero, List.set_cons_succ, i64_w, i32_w]
         rfl
        refine pure_ (i := 22) (N := some 40) (v := ?_) (a' := ?_) (mkB 28 8388607) rfl rfl (any_of HT_.out (by kernel_rfl)) (fun _ _ _ h => h) (Or.inl ⟨by rfl, ?_⟩) ?_ ?_
        rotate_left
        ·
         intro w'
         go_simp
         with_reducible rfl
        rotate_left
        ·
         simp only [Act.put, List.setIfInBounds_toArray, List.set_cons_zero, List.set_cons_succ, i64_w, i32_w]
         rfl
        refine take_ (i := 23) (N := some 41) (v := ?_) (a' := ?_) (mkB 28 16777215) rfl rfl (take_ofW HT_.out HW_.out (by kernel_rfl)) (fun _ _ _ h => h) (Or.inl ⟨by rfl, ?_⟩) hHeld ?_ ?_
        rotate_left
        ·
         rintro w' ⟨s0, s1, s2, s3, s4⟩
         go_simp
         with_reducible rfl
        rotate_left
        ·
         simp only [Act.put, List.setIfInBounds_toArray, List.set_cons_zero, List.set_cons_succ, i64_w, i32_w]
         rfl
        refine pure_ (i := 24) (N := some 42) (v := ?_) (a' := ?_) (mkB 28 33554431) rfl rfl (any_of HT_.out (by kernel_rfl)) (fun _ _ _ h => h) (Or.inl ⟨by rfl, ?_⟩) ?_ ?_
        rotate_left
        ·
         intro w'
         go_simp
         with_reducible rfl
        rotate_left
        ·
         simp only [Act.put, List.setIfInBounds_toArray, List.set_cons_zero, List.set_cons_succ, i64_w, i32_w]
         rfl
        refine one_ (i := 25) (N := some 43) (mkB 28 67108863) rfl rfl (one_of HT_.out (by kernel_rfl)) (by decide) (fun K hK => ?_)
        refine value_ (w1 := ?_) (v := ?_) (by rfl) rfl ?_ ?_
        rotate_left 2
        ·
         go_simp
         constructor
         ·
          rfl
         ·
          rfl
        refine hK.out _ _ ⟨(blk_cell (blk_alloc BK285.out _) 0).trans rfl, (blk_cell (blk_alloc BK285.out _) 1).trans rfl, (World.cell?_alloc_lt _ _ _ (World.block_lt_of_cell? _ _ (((HB.out.cell (World.block_lt_of_cell? w _ hw287_0)).trans hw287_0)))).trans (((HB.out.cell (World.block_lt_of_cell? w _ hw287_0)).trans hw287_0)), (World.cell?_alloc_lt _ _ _ (World.block_lt_of_cell? _ _ (((HB.out.cell (World.block_lt_of_cell? w _ hw288_0)).trans hw288_0)))).trans (((HB.out.cell (World.block_lt_of_cell? w _ hw288_0)).trans hw288_0)), (World.cell?_alloc_lt _ _ _ (World.block_lt_of_cell? _ _ (((HB.out.cell (World.block_lt_of_cell? w _ hw290_0)).trans hw290_0)))).trans (((HB.out.cell (World.block_lt_of_cell? w _ hw290_0)).trans hw290_0))⟩ (fun hHeld => ?_)
        clear hK K
        refine norm_ (a' := ?_) ?_ ?_
        rotate_left
        ·
         show Act.put _ (some 43) _ = _
         simp only [Act.put, List.setIfInBounds_toArray, List.set_cons_zero, List.set_cons_succ, i64_w, i32_w]
         rfl
        refine one_ (i := 26) (N := some 44) (mkB 28 134217727) rfl rfl (one_of HT_.out (by kernel_rfl)) (by decide) (fun K hK => ?_)
        refine Kd.R_append_step (Kd.int .i64) (w0 := w) w.heap.size (by rfl) (.tmp 18) (.tmp 43) 33 3 (.int .i64 0) 8 rfl Try.underlying33 info3 rfl (by decide) (by omega) u5 x5_1 (wrap64 (t286 * (rd (rd_L1 l0_1 x6_1) t289))) [.int .i64 (wrap64 (t286 * (rd (rd_L1 l0_1 x6_1) t289)))] (fun _ => True) (fun _ => False) rfl rfl ?aP (fun _ hk => hk.elim) ?aF ?aO ?aB ?aS ?aL ?_
        (case aP => exact rfl)
        (case aB => exact (pH HB))
        (case aF => exact (fun _ _ => trivial))
        (case aO => exact (pR HO_5))
        (case aS => exact (below_size (pH HB)))
        (case aL => have := LMc10.out; omega)
        intro v292 w15 ho hb hg hat
        rw [← Ny291.out] at ho
        have HO293 := Aside0.mk (ho)
        replace BK285 := Aside0.mk (blk_grown (g := gb285) (o := .cells #[.int .u64 a0_0, .slice (some ad287) l0_1.length c0_1] 30 (0, 0)) (pB BK285) hg (Kd.R_ne HO_5.out BK285.out (by decide)))
        replace HB := Aside0.mk (hb)
        clear HO_5
        clear ho hb hg hat
        refine hK.out _ _ ⟨(blk_cell BK285.out 0).trans rfl, (blk_cell BK285.out 1).trans rfl, ((HB.out.cell (World.block_lt_of_cell? w _ hw287_0)).trans hw287_0), ((HB.out.cell (World.block_lt_of_cell? w _ hw288_0)).trans hw288_0), ((HB.out.cell (World.block_lt_of_cell? w _ hw290_0)).trans hw290_0)⟩ (fun hHeld => ?_)
        clear hK K
        refine norm_ (a' := ?_) ?_ ?_
        rotate_left
        ·
         show Act.put _ (some 44) _ = _
         simp only [Act.put, List.setIfInBounds_toArray, List.set_cons_zero, List.set_cons_succ, i64_w, i32_w]
         rfl
        refine pure_ (i := 27) (N := some 5) (v := ?_) (a' := ?_) (mkB 28 268435455) rfl rfl (any_of HT_.out (by kernel_rfl)) (fun _ _ _ h => h) (Or.inl ⟨by rfl, ?_⟩) ?_ ?_
        rotate_left
        ·
         intro w'
         go_simp
         with_reducible rfl
        rotate_left
        ·
         simp only [Act.put, List.setIfInBounds_toArray, List.set_cons_zero, List.set_cons_succ, i64_w, i32_w]
         rfl
        refine done_ (done_of HT_.out (by kernel_rfl)) ?_
        try go_wp2
        go_roundg k1
        case measure => have := HK1.out; omega
        case rel => exact ⟨(y291), (wrap64 (x6_1 + 1)), (by first | rfl | (simp; done) | (simp [*]; done)), H', ⟨by have := HK1.out; omega⟩, ⟨pR HO293⟩, ⟨pB BK285⟩, ⟨pH HB⟩⟩
       ·
        rw [if_neg c10] at H
        exact absurd H (by simp)
      ·
       rw [if_neg c9] at H
       exact absurd H (by simp)
     ·
      rw [if_neg c8] at H
      exact absurd H (by simp)
    ·
     rw [if_neg c6] at H
     exact absurd H (by simp)
   ·
    rw [if_neg c4] at H
    have c4b0 : decide (x6_1 < (l0_1.length : Int)) = false := decide_eq_false c4
    clear c4
    have H' := Aside0.mk H
    clear H
    have hcz16_0 : wr.cell? ⟨gb285, 0, none⟩ = some (.int .u64 a0_0) := (blk_cell BK285.out 0).trans rfl
    have hcz16_1 : wr.cell? ⟨gb285, 1, none⟩ = some (.slice A0_1 l0_1.length c0_1) := (blk_cell BK285.out 1).trans rfl
    have hfz16_0 := blk_frozen BK285.out 0
    have hfz16_1 := blk_frozen BK285.out 1
    go_wp2
    go_loopg [7] k1 (fun kq v7 w' => ∃ (x7_2 : Int), v7 = .int .i64 x7_2 ∧ Aside0 (rillmeterref12_Get.l1 kq x5_1 x7_2 = some r) ∧ Aside0 (kq ≤ k1) ∧ Aside0 (Kd.R (Kd.int .i64) 3 w' w.heap.size (fun _ => True) u5 x5_1) ∧ Aside0 (w'.heap[gb285]? = some (.cells #[.int .u64 a0_0, (.slice A0_1 l0_1.length c0_1)] 30 (0, 0))) ∧ Aside0 (Below w.heap.size w w'))
    case atStart => exact ⟨(0), (by first | rfl | (simp; done) | (simp [*]; done)), H', ⟨Nat.le_refl _⟩, ⟨pR HO_5⟩, ⟨pB BK285⟩, ⟨pH HB⟩⟩
    case round =>
     clear H'
     try clear c1
     try clear c2
     try clear p2
     try clear q2
     try clear hx2
     try clear c3
     try clear c4
     try clear c4b0
     try clear c6
     try clear c6b0
     try clear p6
     try clear c8
     try clear c8b0
     try clear c9
     try clear c9b0
     try clear c10
     try clear hcz11_0
     try clear hcz11_1
     try clear hcz16_0
     try clear hcz16_1
     try clear hfz11_0
     try clear hfz11_1
     try clear hfz16_0
     try clear hfz16_1
     try clear hx287_0
     try clear hx288_0
     try clear hx290_0
     try clear p2
     try clear p287
     try clear p288
     try clear p290
     try clear q287
     try clear q288
     try clear q290
     obtain ⟨x7_2, rfl, HA, HK2, HO_5, BK285, HB⟩ := hrel
     cases gk with
     | zero => exact absurd HA.out (by simp [rillmeterref12_Get.l1])
     | succ k2 =>
      have H := HA.out
      clear HA
      simp only [rillmeterref12_Get.l1] at H
      by_cases c17 : x7_2 < (x5_1.length : Int)
      ·
       rw [if_pos c17] at H
       have c17b0 : decide (x7_2 < (x5_1.length : Int)) = true := decide_eq_true c17
       clear c17
       have H' := Aside0.mk H
       clear H
       obtain ⟨Ao18, co18, eo18⟩ := Kd.R_slice HO_5.out
       subst eo18
       go_wp2
       go_loopg [8, 9, 10] k2 (fun kq v8 v9 v10 w' => ∃ (x8_3 : Int) (x9_3 : Int) (x10_3 : Int), v8 = .int .i64 x8_3 ∧ v9 = .int .i64 x9_3 ∧ v10 = .int .i64 x10_3 ∧ Aside0 (rillmeterref12_Get.l2 kq x5_1 x7_2 x8_3 x9_3 x10_3 = some r) ∧ Aside0 (kq ≤ k2) ∧ Aside0 (Kd.R (Kd.int .i64) 3 w' w.heap.size (fun _ => True) (.slice Ao18 x5_1.length co18) x5_1) ∧ Aside0 (w'.heap[gb285]? = some (.cells #[.int .u64 a0_0, (.slice A0_1 l0_1.length c0_1)] 30 (0, 0))) ∧ Aside0 (Below w.heap.size w w'))
       case atStart => exact ⟨(0), (0), (0), (by first | rfl | (simp; done) | (simp [*]; done)), (by first | rfl | (simp; done) | (simp [*]; done)), (by first | rfl | (simp; done) | (simp [*]; done)), H', ⟨Nat.le_refl _⟩, ⟨pR HO_5⟩, ⟨pB BK285⟩, ⟨pH HB⟩⟩
       case round =>
        clear H'
        try clear c1
        try clear c2
        try clear p2
        try clear q2
        try clear hx2
        try clear c3
        try clear c4
        try clear c4b0
        try clear c6
        try clear c6b0
        try clear p6
        try clear c8
        try clear c8b0
        try clear c9
        try clear c9b0
        try clear c10
        try clear c17
        try clear c17b0
        try clear hcz11_0
        try clear hcz11_1
        try clear hcz16_0
        try clear hcz16_1
        try clear hfz11_0
        try clear hfz11_1
        try clear hfz16_0
        try clear hfz16_1
        try clear hx287_0
        try clear hx288_0
        try clear hx290_0
        try clear p2
        try clear p287
        try clear p288
        try clear p290
        try clear p6
        try clear q2
        try clear q287
        try clear q288
        try clear q290
        obtain ⟨x8_3, x9_3, x10_3, rfl, rfl, rfl, HA, HK3, HO_5, BK285, HB⟩ := hrel
        cases gk with
        | zero => exact absurd HA.out (by simp [rillmeterref12_Get.l2])
        | succ k3 =>
         have H := HA.out
         clear HA
         simp only [rillmeterref12_Get.l2] at H
         by_cases c19 : x10_3 < (x5_1.length : Int)
         ·
          rw [if_pos c19] at H
          have c19b0 : decide (x10_3 < (x5_1.length : Int)) = true := decide_eq_true c19
          clear c19
          by_cases c20 : 0 ≤ x10_3
          ·
           rw [if_pos c20] at H
           have c20b0 : decide (0 ≤ x10_3) = true := decide_eq_true c20
           clear c20
           by_cases c21 : 0 ≤ x7_2
           ·
            rw [if_pos c21] at H
            have c21b0 : decide (0 ≤ x7_2) = true := decide_eq_true c21
            clear c21
            by_cases c22 : x7_2 < (x5_1.length : Int)
            ·
             rw [if_pos c22] at H
             have c22b0 : decide (x7_2 < (x5_1.length : Int)) = true := decide_eq_true c22
             clear c22
             by_cases c23 : (rd x5_1 x10_3) < (rd x5_1 x7_2)
             ·
              rw [if_pos c23] at H
              have c23b0 : decide ((rd x5_1 x10_3) < (rd x5_1 x7_2)) = true := decide_eq_true c23
              clear c23
              by_cases c24 : (rd x5_1 x10_3) > (rd x5_1 x7_2)
              ·
               rw [if_pos c24] at H
               have c24b0 : decide ((rd x5_1 x7_2) < (rd x5_1 x10_3)) = true := decide_eq_true c24
               clear c24
               have H' := Aside0.mk H
               clear H
               try go_wp2
               replace HO_5 := Aside0.mk (Kd.R_drew HO_5.out)
               replace BK285 := Aside0.mk (blk_drew BK285.out)
               replace HB := Aside0.mk (below_drew1 HB.out)
               have p295 : 0 ≤ (x10_3 : Int) := of_decide_eq_true (by first | (with_reducible assumption) | assumption)
               have q295 : x10_3 < (x5_1.length : Int) := of_decide_eq_true (by first | (with_reducible assumption) | assumption)
               obtain ⟨ad295, e295, hx295_0⟩ := Kd.at_int (Kd.R_reads' HO_5.out).2.2 x10_3 p295 q295
               cases e295
               replace p295 := eq_true p295
               replace q295 := eq_true q295
               have p296 : 0 ≤ (x7_2 : Int) := of_decide_eq_true (by first | (with_reducible assumption) | assumption)
               have q296 : x7_2 < (x5_1.length : Int) := of_decide_eq_true (by first | (with_reducible assumption) | assumption)
               obtain ⟨ad296, e296, hx296_0⟩ := Kd.at_int (Kd.R_reads' HO_5.out).2.2 x7_2 p296 q296
               obtain rfl : ad295 = ad296 := (by injection e296)
               replace p296 := eq_true p296
               replace q296 := eq_true q296
               refine start_ (n := 9) (S := fun w' => w'.cell? (ad295.add (x10_3).toNat) = some (.int .i64 (rd x5_1 x10_3)) ∧ w'.cell? (ad295.add (x7_2).toNat) = some (.int .i64 (rd x5_1 x7_2))) (ds := []) #[false, false, false, false, false, false, false, false, false] (by kernel_rfl) rfl rfl ⟨hx295_0, hx296_0⟩ (fun hHeld => ?_); refine with_tabW rillmeterref12_Get.tab13 rillmeterref12_Get.bits13 (fun HT_ HW_ => ?_)
               generalize wr.drew = w25 at HO_5 BK285 HB hx295_0 hx296_0 hHeld ⊢
               refine pure_ (i := 0) (N := some 57) (v := ?_) (a' := ?_) (mkB 9 1) rfl rfl (any_of HT_.out (by kernel_rfl)) (fun _ _ _ h => h) (Or.inl ⟨by rfl, ?_⟩) ?_ ?_
               rotate_left
               ·
                intro w'
                go_simp
                with_reducible rfl
               rotate_left
               ·
                simp only [Act.put, List.setIfInBounds_toArray, List.set_cons_zero, List.set_cons_succ, i64_w, i32_w]
                rfl
               refine pure_ (i := 1) (N := some 58) (v := ?_) (a' := ?_) (mkB 9 3) rfl rfl (any_of HT_.out (by kernel_rfl)) (fun _ _ _ h => h) (Or.inl ⟨by rfl, ?_⟩) ?_ ?_
               rotate_left
               ·
                intro w'
                go_simp
                with_reducible rfl
               rotate_left
               ·
                simp only [Act.put, List.setIfInBounds_toArray, List.set_cons_zero, List.set_cons_succ, i64_w, i32_w]
                rfl
               refine pure_ (i := 2) (N := some 59) (v := ?_) (a' := ?_) (mkB 9 7) rfl rfl (any_of HT_.out (by kernel_rfl)) (fun _ _ _ h => h) (Or.inl ⟨by rfl, ?_⟩) ?_ ?_
               rotate_left
               ·
                intro w'
                go_simp
                with_reducible rfl
               rotate_left
               ·
                simp only [Act.put, List.setIfInBounds_toArray, List.set_cons_zero, List.set_cons_succ, i64_w, i32_w]
                rfl
               refine pure_ (i := 4) (N := some 61) (v := ?_) (a' := ?_) (mkB 9 23) rfl rfl (any_of HT_.out (by kernel_rfl)) (fun _ _ _ h => h) (Or.inl ⟨by rfl, ?_⟩) ?_ ?_
               rotate_left
               ·
                intro w'
                go_simp
                with_reducible rfl
               rotate_left
               ·
                simp only [Act.put, List.setIfInBounds_toArray, List.set_cons_zero, List.set_cons_succ, i64_w, i32_w]
                rfl
               refine pure_ (i := 5) (N := some 62) (v := ?_) (a' := ?_) (mkB 9 55) rfl rfl (any_of HT_.out (by kernel_rfl)) (fun _ _ _ h => h) (Or.inl ⟨by rfl, ?_⟩) ?_ ?_
               rotate_left
               ·
                intro w'
                go_simp
                with_reducible rfl
               rotate_left
               ·
                simp only [Act.put, List.setIfInBounds_toArray, List.set_cons_zero, List.set_cons_succ, i64_w, i32_w]
                rfl
               refine pure_ (i := 6) (N := some 63) (v := ?_) (a' := ?_) (mkB 9 119) rfl rfl (any_of HT_.out (by kernel_rfl)) (fun _ _ _ h => h) (Or.inl ⟨by rfl, ?_⟩) ?_ ?_
               rotate_left
               ·
                intro w'
                go_simp
                with_reducible rfl
               rotate_left
               ·
                simp only [Act.put, List.setIfInBounds_toArray, List.set_cons_zero, List.set_cons_succ, i64_w, i32_w]
                rfl
               refine take_ (i := 3) (N := some 60) (v := ?_) (a' := ?_) (mkB 9 127) rfl rfl (take_ofW HT_.out HW_.out (by kernel_rfl)) (fun _ _ _ h => h) (Or.inl ⟨by rfl, ?_⟩) hHeld ?_ ?_
               rotate_left
               ·
                rintro w' ⟨s0, s1⟩
                go_simp
                with_reducible rfl
               rotate_left
               ·
                simp only [Act.put, List.setIfInBounds_toArray, List.set_cons_zero, List.set_cons_succ, i64_w, i32_w]
                rfl
               refine take_ (i := 7) (N := some 64) (v := ?_) (a' := ?_) (mkB 9 255) rfl rfl (take_ofW HT_.out HW_.out (by kernel_rfl)) (fun _ _ _ h => h) (Or.inl ⟨by rfl, ?_⟩) hHeld ?_ ?_
               rotate_left
               ·
                rintro w' ⟨s0, s1⟩
                go_simp
                with_reducible rfl
               rotate_left
               ·
                simp only [Act.put, List.setIfInBounds_toArray, List.set_cons_zero, List.set_cons_succ, i64_w, i32_w]
                rfl
               refine pure_ (i := 8) (N := some 65) (v := ?_) (a' := ?_) (mkB 9 511) rfl rfl (any_of HT_.out (by kernel_rfl)) (fun _ _ _ h => h) (Or.inl ⟨by rfl, ?_⟩) ?_ ?_
               rotate_left
               ·
                intro w'
                go_simp
                with_reducible rfl
               rotate_left
               ·
                simp only [Act.put, List.setIfInBounds_toArray, List.set_cons_zero, List.set_cons_succ, i64_w, i32_w]
                rfl
               refine done_ (done_of HT_.out (by kernel_rfl)) ?_
               try go_wp2
               replace HO_5 := Aside0.mk (Kd.R_drew HO_5.out)
               replace BK285 := Aside0.mk (blk_drew BK285.out)
               replace HB := Aside0.mk (below_drew1 HB.out)
               have p297 : 0 ≤ (x10_3 : Int) := of_decide_eq_true (by first | (with_reducible assumption) | assumption)
               have q297 : x10_3 < (x5_1.length : Int) := of_decide_eq_true (by first | (with_reducible assumption) | assumption)
               obtain ⟨ad297, e297, hx297_0⟩ := Kd.at_int (Kd.R_reads' HO_5.out).2.2 x10_3 p297 q297
               obtain rfl : ad295 = ad297 := (by injection e297)
               replace p297 := eq_true p297
               replace q297 := eq_true q297
               have p298 : 0 ≤ (x7_2 : Int) := of_decide_eq_true (by first | (with_reducible assumption) | assumption)
               have q298 : x7_2 < (x5_1.length : Int) := of_decide_eq_true (by first | (with_reducible assumption) | assumption)
               obtain ⟨ad298, e298, hx298_0⟩ := Kd.at_int (Kd.R_reads' HO_5.out).2.2 x7_2 p298 q298
               obtain rfl : ad295 = ad298 := (by injection e298)
               replace p298 := eq_true p298
               replace q298 := eq_true q298
               refine start_ (n := 9) (S := fun w' => w'.cell? (ad295.add (x10_3).toNat) = some (.int .i64 (rd x5_1 x10_3)) ∧ w'.cell? (ad295.add (x7_2).toNat) = some (.int .i64 (rd x5_1 x7_2))) (ds := []) #[false, false, false, false, false, false, false, false, false] (by kernel_rfl) rfl rfl ⟨hx297_0, hx298_0⟩ (fun hHeld => ?_); refine with_tabW rillmeterref12_Get.tab15 rillmeterref12_Get.bits15 (fun HT_ HW_ => ?_)
               generalize w25.drew = w26 at HO_5 BK285 HB hx297_0 hx298_0 hHeld ⊢
               refine pure_ (i := 0) (N := some 68) (v := ?_) (a' := ?_) (mkB 9 1) rfl rfl (any_of HT_.out (by kernel_rfl)) (fun _ _ _ h => h) (Or.inl ⟨by rfl, ?_⟩) ?_ ?_
               rotate_left
               ·
                intro w'
                go_simp
                with_reducible rfl
               rotate_left
               ·
                simp only [Act.put, List.setIfInBounds_toArray, List.set_cons_zero, List.set_cons_succ, i64_w, i32_w]
                rfl
               refine pure_ (i := 1) (N := some 69) (v := ?_) (a' := ?_) (mkB 9 3) rfl rfl (any_of HT_.out (by kernel_rfl)) (fun _ _ _ h => h) (Or.inl ⟨by rfl, ?_⟩) ?_ ?_
               rotate_left
               ·
                intro w'
                go_simp
                with_reducible rfl
               rotate_left
               ·
                simp only [Act.put, List.setIfInBounds_toArray, List.set_cons_zero, List.set_cons_succ, i64_w, i32_w]
                rfl
               refine pure_ (i := 2) (N := some 70) (v := ?_) (a' := ?_) (mkB 9 7) rfl rfl (any_of HT_.out (by kernel_rfl)) (fun _ _ _ h => h) (Or.inl ⟨by rfl, ?_⟩) ?_ ?_
               rotate_left
               ·
                intro w'
                go_simp
                with_reducible rfl
               rotate_left
               ·
                simp only [Act.put, List.setIfInBounds_toArray, List.set_cons_zero, List.set_cons_succ, i64_w, i32_w]
                rfl
               refine pure_ (i := 4) (N := some 72) (v := ?_) (a' := ?_) (mkB 9 23) rfl rfl (any_of HT_.out (by kernel_rfl)) (fun _ _ _ h => h) (Or.inl ⟨by rfl, ?_⟩) ?_ ?_
               rotate_left
               ·
                intro w'
                go_simp
                with_reducible rfl
               rotate_left
               ·
                simp only [Act.put, List.setIfInBounds_toArray, List.set_cons_zero, List.set_cons_succ, i64_w, i32_w]
                rfl
               refine pure_ (i := 5) (N := some 73) (v := ?_) (a' := ?_) (mkB 9 55) rfl rfl (any_of HT_.out (by kernel_rfl)) (fun _ _ _ h => h) (Or.inl ⟨by rfl, ?_⟩) ?_ ?_
               rotate_left
               ·
                intro w'
                go_simp
                with_reducible rfl
               rotate_left
               ·
                simp only [Act.put, List.setIfInBounds_toArray, List.set_cons_zero, List.set_cons_succ, i64_w, i32_w]
                rfl
               refine pure_ (i := 6) (N := some 74) (v := ?_) (a' := ?_) (mkB 9 119) rfl rfl (any_of HT_.out (by kernel_rfl)) (fun _ _ _ h => h) (Or.inl ⟨by rfl, ?_⟩) ?_ ?_
               rotate_left
               ·
                intro w'
                go_simp
                with_reducible rfl
               rotate_left
               ·
                simp only [Act.put, List.setIfInBounds_toArray, List.set_cons_zero, List.set_cons_succ, i64_w, i32_w]
                rfl
               refine take_ (i := 3) (N := some 71) (v := ?_) (a' := ?_) (mkB 9 127) rfl rfl (take_ofW HT_.out HW_.out (by kernel_rfl)) (fun _ _ _ h => h) (Or.inl ⟨by rfl, ?_⟩) hHeld ?_ ?_
               rotate_left
               ·
                rintro w' ⟨s0, s1⟩
                go_simp
                with_reducible rfl
               rotate_left
               ·
                simp only [Act.put, List.setIfInBounds_toArray, List.set_cons_zero, List.set_cons_succ, i64_w, i32_w]
                rfl
               refine take_ (i := 7) (N := some 75) (v := ?_) (a' := ?_) (mkB 9 255) rfl rfl (take_ofW HT_.out HW_.out (by kernel_rfl)) (fun _ _ _ h => h) (Or.inl ⟨by rfl, ?_⟩) hHeld ?_ ?_
               rotate_left
               ·
                rintro w' ⟨s0, s1⟩
                go_simp
                with_reducible rfl
               rotate_left
               ·
                simp only [Act.put, List.setIfInBounds_toArray, List.set_cons_zero, List.set_cons_succ, i64_w, i32_w]
                rfl
               refine pure_ (i := 8) (N := some 76) (v := ?_) (a' := ?_) (mkB 9 511) rfl rfl (any_of HT_.out (by kernel_rfl)) (fun _ _ _ h => h) (Or.inl ⟨by rfl, ?_⟩) ?_ ?_
               rotate_left
               ·
                intro w'
                go_simp
                with_reducible rfl
               rotate_left
               ·
                simp only [Act.put, List.setIfInBounds_toArray, List.set_cons_zero, List.set_cons_succ, i64_w, i32_w]
                rfl
               refine done_ (done_of HT_.out (by kernel_rfl)) ?_
               try go_wp2
               go_roundg k3
               case measure => have := HK1.out; have := HK2.out; have := HK3.out; omega
               case rel => exact ⟨(wrap64 (x8_3 + 1)), (wrap64 (x9_3 + 1)), (wrap64 (x10_3 + 1)), (by first | rfl | (simp; done) | (simp [*]; done)), (by first | rfl | (simp; done) | (simp [*]; done)), (by first | rfl | (simp; done) | (simp [*]; done)), H', ⟨by have := HK1.out; have := HK2.out; have := HK3.out; omega⟩, ⟨pR HO_5⟩, ⟨pB BK285⟩, ⟨pH HB⟩⟩
              ·
               rw [if_neg c24] at H
               have c24b0 : decide ((rd x5_1 x7_2) < (rd x5_1 x10_3)) = false := decide_eq_false c24
               clear c24
               have H' := Aside0.mk H
               clear H
               try go_wp2
               replace HO_5 := Aside0.mk (Kd.R_drew HO_5.out)
               replace BK285 := Aside0.mk (blk_drew BK285.out)
               replace HB := Aside0.mk (below_drew1 HB.out)
               have p295 : 0 ≤ (x10_3 : Int) := of_decide_eq_true (by first | (with_reducible assumption) | assumption)
               have q295 : x10_3 < (x5_1.length : Int) := of_decide_eq_true (by first | (with_reducible assumption) | assumption)
               obtain ⟨ad295, e295, hx295_0⟩ := Kd.at_int (Kd.R_reads' HO_5.out).2.2 x10_3 p295 q295
               cases e295
               replace p295 := eq_true p295
               replace q295 := eq_true q295
               have p296 : 0 ≤ (x7_2 : Int) := of_decide_eq_true (by first | (with_reducible assumption) | assumption)
               have q296 : x7_2 < (x5_1.length : Int) := of_decide_eq_true (by first | (with_reducible assumption) | assumption)
               obtain ⟨ad296, e296, hx296_0⟩ := Kd.at_int (Kd.R_reads' HO_5.out).2.2 x7_2 p296 q296
               obtain rfl : ad295 = ad296 := (by injection e296)
               replace p296 := eq_true p296
               replace q296 := eq_true q296
               refine start_ (n := 9) (S := fun w' => w'.cell? (ad295.add (x10_3).toNat) = some (.int .i64 (rd x5_1 x10_3)) ∧ w'.cell? (ad295.add (x7_2).toNat) = some (.int .i64 (rd x5_1 x7_2))) (ds := []) #[false, false, false, false, false, false, false, false, false] (by kernel_rfl) rfl rfl ⟨hx295_0, hx296_0⟩ (fun hHeld => ?_); refine with_tabW rillmeterref12_Get.tab13 rillmeterref12_Get.bits13 (fun HT_ HW_ => ?_)
               generalize wr.drew = w27 at HO_5 BK285 HB hx295_0 hx296_0 hHeld ⊢
               refine pure_ (i := 0) (N := some 57) (v := ?_) (a' := ?_) (mkB 9 1) rfl rfl (any_of HT_.out (by kernel_rfl)) (fun _ _ _ h => h) (Or.inl ⟨by rfl, ?_⟩) ?_ ?_
               rotate_left
               ·
                intro w'
                go_simp
                with_reducible rfl
               rotate_left
               ·
                simp only [Act.put, List.setIfInBounds_toArray, List.set_cons_zero, List.set_cons_succ, i64_w, i32_w]
                rfl
               refine pure_ (i := 1) (N := some 58) (v := ?_) (a' := ?_) (mkB 9 3) rfl rfl (any_of HT_.out (by kernel_rfl)) (fun _ _ _ h => h) (Or.inl ⟨by rfl, ?_⟩) ?_ ?_
               rotate_left
               ·
                intro w'
                go_simp
                with_reducible rfl
               rotate_left
               ·
                simp only [Act.put, List.setIfInBounds_toArray, List.set_cons_zero, List.set_cons_succ, i64_w, i32_w]
                rfl
               refine pure_ (i := 2) (N := some 59) (v := ?_) (a' := ?_) (mkB 9 7) rfl rfl (any_of HT_.out (by kernel_rfl)) (fun _ _ _ h => h) (Or.inl ⟨by rfl, ?_⟩) ?_ ?_
               rotate_left
               ·
                intro w'
                go_simp
                with_reducible rfl
               rotate_left
               ·
                simp only [Act.put, List.setIfInBounds_toArray, List.set_cons_zero, List.set_cons_succ, i64_w, i32_w]
                rfl
               refine pure_ (i := 4) (N := some 61) (v := ?_) (a' := ?_) (mkB 9 23) rfl rfl (any_of HT_.out (by kernel_rfl)) (fun _ _ _ h => h) (Or.inl ⟨by rfl, ?_⟩) ?_ ?_
               rotate_left
               ·
                intro w'
                go_simp
                with_reducible rfl
               rotate_left
               ·
                simp only [Act.put, List.setIfInBounds_toArray, List.set_cons_zero, List.set_cons_succ, i64_w, i32_w]
                rfl
               refine pure_ (i := 5) (N := some 62) (v := ?_) (a' := ?_) (mkB 9 55) rfl rfl (any_of HT_.out (by kernel_rfl)) (fun _ _ _ h => h) (Or.inl ⟨by rfl, ?_⟩) ?_ ?_
               rotate_left
               ·
                intro w'
                go_simp
                with_reducible rfl
               rotate_left
               ·
                simp only [Act.put, List.setIfInBounds_toArray, List.set_cons_zero, List.set_cons_succ, i64_w, i32_w]
                rfl
               refine pure_ (i := 6) (N := some 63) (v := ?_) (a' := ?_) (mkB 9 119) rfl rfl (any_of HT_.out (by kernel_rfl)) (fun _ _ _ h => h) (Or.inl ⟨by rfl, ?_⟩) ?_ ?_
               rotate_left
               ·
                intro w'
                go_simp
                with_reducible rfl
               rotate_left
               ·
                simp only [Act.put, List.setIfInBounds_toArray, List.set_cons_zero, List.set_cons_succ, i64_w, i32_w]
                rfl
               refine take_ (i := 3) (N := some 60) (v := ?_) (a' := ?_) (mkB 9 127) rfl rfl (take_ofW HT_.out HW_.out (by kernel_rfl)) (fun _ _ _ h => h) (Or.inl ⟨by rfl, ?_⟩) hHeld ?_ ?_
               rotate_left
               ·
                rintro w' ⟨s0, s1⟩
                go_simp
                with_reducible rfl
               rotate_left
               ·
                simp only [Act.put, List.setIfInBounds_toArray, List.set_cons_zero, List.set_cons_succ, i64_w, i32_w]
                rfl
               refine take_ (i := 7) (N := some 64) (v := ?_) (a' := ?_) (mkB 9 255) rfl rfl (take_ofW HT_.out HW_.out (by kernel_rfl)) (fun _ _ _ h => h) (Or.inl ⟨by rfl, ?_⟩) hHeld ?_ ?_
               rotate_left
               ·
                rintro w' ⟨s0, s1⟩
                go_simp
                with_reducible rfl
               rotate_left
               ·
                simp only [Act.put, List.setIfInBounds_toArray, List.set_cons_zero, List.set_cons_succ, i64_w, i32_w]
                rfl
               refine pure_ (i := 8) (N := some 65) (v := ?_) (a' := ?_) (mkB 9 511) rfl rfl (any_of HT_.out (by kernel_rfl)) (fun _ _ _ h => h) (Or.inl ⟨by rfl, ?_⟩) ?_ ?_
               rotate_left
               ·
                intro w'
                go_simp
                with_reducible rfl
               rotate_left
               ·
                simp only [Act.put, List.setIfInBounds_toArray, List.set_cons_zero, List.set_cons_succ, i64_w, i32_w]
                rfl
               refine done_ (done_of HT_.out (by kernel_rfl)) ?_
               try go_wp2
               replace HO_5 := Aside0.mk (Kd.R_drew HO_5.out)
               replace BK285 := Aside0.mk (blk_drew BK285.out)
               replace HB := Aside0.mk (below_drew1 HB.out)
               have p297 : 0 ≤ (x10_3 : Int) := of_decide_eq_true (by first | (with_reducible assumption) | assumption)
               have q297 : x10_3 < (x5_1.length : Int) := of_decide_eq_true (by first | (with_reducible assumption) | assumption)
               obtain ⟨ad297, e297, hx297_0⟩ := Kd.at_int (Kd.R_reads' HO_5.out).2.2 x10_3 p297 q297
               obtain rfl : ad295 = ad297 := (by injection e297)
               replace p297 := eq_true p297
               replace q297 := eq_true q297
               have p298 : 0 ≤ (x7_2 : Int) := of_decide_eq_true (by first | (with_reducible assumption) | assumption)
               have q298 : x7_2 < (x5_1.length : Int) := of_decide_eq_true (by first | (with_reducible assumption) | assumption)
               obtain ⟨ad298, e298, hx298_0⟩ := Kd.at_int (Kd.R_reads' HO_5.out).2.2 x7_2 p298 q298
               obtain rfl : ad295 = ad298 := (by injection e298)
               replace p298 := eq_true p298
               replace q298 := eq_true q298
               refine start_ (n := 9) (S := fun w' => w'.cell? (ad295.add (x10_3).toNat) = some (.int .i64 (rd x5_1 x10_3)) ∧ w'.cell? (ad295.add (x7_2).toNat) = some (.int .i64 (rd x5_1 x7_2))) (ds := []) #[false, false, false, false, false, false, false, false, false] (by kernel_rfl) rfl rfl ⟨hx297_0, hx298_0⟩ (fun hHeld => ?_); refine with_tabW rillmeterref12_Get.tab15 rillmeterref12_Get.bits15 (fun HT_ HW_ => ?_)
               generalize w27.drew = w28 at HO_5 BK285 HB hx297_0 hx298_0 hHeld ⊢
               refine pure_ (i := 0) (N := some 68) (v := ?_) (a' := ?_) (mkB 9 1) rfl rfl (any_of HT_.out (by kernel_rfl)) (fun _ _ _ h => h) (Or.inl ⟨by rfl, ?_⟩) ?_ ?_
               rotate_left
               ·
                intro w'
                go_simp
                with_reducible rfl
               rotate_left
               ·
                simp only [Act.put, List.setIfInBounds_toArray, List.set_cons_zero, List.set_cons_succ, i64_w, i32_w]
                rfl
               refine pure_ (i := 1) (N := some 69) (v := ?_) (a' := ?_) (mkB 9 3) rfl rfl (any_of HT_.out (by kernel_rfl)) (fun _ _ _ h => h) (Or.inl ⟨by rfl, ?_⟩) ?_ ?_
               rotate_left
               ·
                intro w'
                go_simp
                with_reducible rfl
               rotate_left
               ·
                simp only [Act.put, List.setIfInBounds_toArray, List.set_cons_zero, List.set_cons_succ, i64_w, i32_w]
                rfl
               refine pure_ (i := 2) (N := some 70) (v := ?_) (a' := ?_) (mkB 9 7) rfl rfl (any_of HT_.out (by kernel_rfl)) (fun _ _ _ h => h) (Or.inl ⟨by rfl, ?_⟩) ?_ ?_
               rotate_left
               ·
                intro w'
                go_simp
                with_reducible rfl
               rotate_left
               ·
                simp only [Act.put, List.setIfInBounds_toArray, List.set_cons_zero, List.set_cons_succ, i64_w, i32_w]
                rfl
               refine pure_ (i := 4) (N := some 72) (v := ?_) (a' := ?_) (mkB 9 23) rfl rfl (any_of HT_.out (by kernel_rfl)) (fun _ _ _ h => h) (Or.inl ⟨by rfl, ?_⟩) ?_ ?_
               rotate_left
               ·
                intro w'
                go_simp
                with_reducible rfl
               rotate_left
               ·
                simp only [Act.put, List.setIfInBounds_toArray, List.set_cons_zero, List.set_cons_succ, i64_w, i32_w]
                rfl
               refine pure_ (i := 5) (N := some 73) (v := ?_) (a' := ?_) (mkB 9 55) rfl rfl (any_of HT_.out (by kernel_rfl)) (fun _ _ _ h => h) (Or.inl ⟨by rfl, ?_⟩) ?_ ?_
               rotate_left
               ·
                intro w'
                go_simp
                with_reducible rfl
               rotate_left
               ·
                simp only [Act.put, List.setIfInBounds_toArray, List.set_cons_zero, List.set_cons_succ, i64_w, i32_w]
                rfl
               refine pure_ (i := 6) (N := some 74) (v := ?_) (a' := ?_) (mkB 9 119) rfl rfl (any_of HT_.out (by kernel_rfl)) (fun _ _ _ h => h) (Or.inl ⟨by rfl, ?_⟩) ?_ ?_
               rotate_left
               ·
                intro w'
                go_simp
                with_reducible rfl
               rotate_left
               ·
                simp only [Act.put, List.setIfInBounds_toArray, List.set_cons_zero, List.set_cons_succ, i64_w, i32_w]
                rfl
               refine take_ (i := 3) (N := some 71) (v := ?_) (a' := ?_) (mkB 9 127) rfl rfl (take_ofW HT_.out HW_.out (by kernel_rfl)) (fun _ _ _ h => h) (Or.inl ⟨by rfl, ?_⟩) hHeld ?_ ?_
               rotate_left
               ·
                rintro w' ⟨s0, s1⟩
                go_simp
                with_reducible rfl
               rotate_left
               ·
                simp only [Act.put, List.setIfInBounds_toArray, List.set_cons_zero, List.set_cons_succ, i64_w, i32_w]
                rfl
               refine take_ (i := 7) (N := some 75) (v := ?_) (a' := ?_) (mkB 9 255) rfl rfl (take_ofW HT_.out HW_.out (by kernel_rfl)) (fun _ _ _ h => h) (Or.inl ⟨by rfl, ?_⟩) hHeld ?_ ?_
               rotate_left
               ·
                rintro w' ⟨s0, s1⟩
                go_simp
                with_reducible rfl
               rotate_left
               ·
                simp only [Act.put, List.setIfInBounds_toArray, List.set_cons_zero, List.set_cons_succ, i64_w, i32_w]
                rfl
               refine pure_ (i := 8) (N := some 76) (v := ?_) (a' := ?_) (mkB 9 511) rfl rfl (any_of HT_.out (by kernel_rfl)) (fun _ _ _ h => h) (Or.inl ⟨by rfl, ?_⟩) ?_ ?_
               rotate_left
               ·
                intro w'
                go_simp
                with_reducible rfl
               rotate_left
               ·
                simp only [Act.put, List.setIfInBounds_toArray, List.set_cons_zero, List.set_cons_succ, i64_w, i32_w]
                rfl
               refine done_ (done_of HT_.out (by kernel_rfl)) ?_
               try go_wp2
               go_roundg k3
               case measure => have := HK1.out; have := HK2.out; have := HK3.out; omega
               case rel => exact ⟨(wrap64 (x8_3 + 1)), (x9_3), (wrap64 (x10_3 + 1)), (by first | rfl | (simp; done) | (simp [*]; done)), (by first | rfl | (simp; done) | (simp [*]; done)), (by first | rfl | (simp; done) | (simp [*]; done)), H', ⟨by have := HK1.out; have := HK2.out; have := HK3.out; omega⟩, ⟨pR HO_5⟩, ⟨pB BK285⟩, ⟨pH HB⟩⟩
             ·
              rw [if_neg c23] at H
              have c23b0 : decide ((rd x5_1 x10_3) < (rd x5_1 x7_2)) = false := decide_eq_false c23
              clear c23
              by_cases c29 : (rd x5_1 x10_3) > (rd x5_1 x7_2)
              ·
               rw [if_pos c29] at H
               have c29b0 : decide ((rd x5_1 x7_2) < (rd x5_1 x10_3)) = true := decide_eq_true c29
               clear c29
               have H' := Aside0.mk H
               clear H
               try go_wp2
               replace HO_5 := Aside0.mk (Kd.R_drew HO_5.out)
               replace BK285 := Aside0.mk (blk_drew BK285.out)
               replace HB := Aside0.mk (below_drew1 HB.out)
               have p295 : 0 ≤ (x10_3 : Int) := of_decide_eq_true (by first | (with_reducible assumption) | assumption)
               have q295 : x10_3 < (x5_1.length : Int) := of_decide_eq_true (by first | (with_reducible assumption) | assumption)
               obtain ⟨ad295, e295, hx295_0⟩ := Kd.at_int (Kd.R_reads' HO_5.out).2.2 x10_3 p295 q295
               cases e295
               replace p295 := eq_true p295
               replace q295 := eq_true q295
               have p296 : 0 ≤ (x7_2 : Int) := of_decide_eq_true (by first | (with_reducible assumption) | assumption)
               have q296 : x7_2 < (x5_1.length : Int) := of_decide_eq_true (by first | (with_reducible assumption) | assumption)
               obtain ⟨ad296, e296, hx296_0⟩ := Kd.at_int (Kd.R_reads' HO_5.out).2.2 x7_2 p296 q296
               obtain rfl : ad295 = ad296 := (by injection e296)
               replace p296 := eq_true p296
               replace q296 := eq_true q296
               refine start_ (n := 9) (S := fun w' => w'.cell? (ad295.add (x10_3).toNat) = some (.int .i64 (rd x5_1 x10_3)) ∧ w'.cell? (ad295.add (x7_2).toNat) = some (.int .i64 (rd x5_1 x7_2))) (ds := []) #[false, false, false, false, false, false, false, false, false] (by kernel_rfl) rfl rfl ⟨hx295_0, hx296_0⟩ (fun hHeld => ?_); refine with_tabW rillmeterref12_Get.tab13 rillmeterref12_Get.bits13 (fun HT_ HW_ => ?_)
               generalize wr.drew = w30 at HO_5 BK285 HB hx295_0 hx296_0 hHeld ⊢
               refine pure_ (i := 0) (N := some 57) (v := ?_) (a' := ?_) (mkB 9 1) rfl rfl (any_of HT_.out (by kernel_rfl)) (fun _ _ _ h => h) (Or.inl ⟨by rfl, ?_⟩) ?_ ?_
               rotate_left
               ·
                intro w'
                go_simp
                with_reducible rfl
               rotate_left
               ·
                simp only [Act.put, List.setIfInBounds_toArray, List.set_cons_zero, List.set_cons_succ, i64_w, i32_w]
                rfl
               refine pure_ (i := 1) (N := some 58) (v := ?_) (a' := ?_) (mkB 9 3) rfl rfl (any_of HT_.out (by kernel_rfl)) (fun _ _ _ h => h) (Or.inl ⟨by rfl, ?_⟩) ?_ ?_
               rotate_left
               ·
                intro w'
                go_simp
                with_reducible rfl
               rotate_left
               ·
                simp only [Act.put, List.setIfInBounds_toArray, List.set_cons_zero, List.set_cons_succ, i64_w, i32_w]
                rfl
               refine pure_ (i := 2) (N := some 59) (v := ?_) (a' := ?_) (mkB 9 7) rfl rfl (any_of HT_.out (by kernel_rfl)) (fun _ _ _ h => h) (Or.inl ⟨by rfl, ?_⟩) ?_ ?_
               rotate_left
               ·
                intro w'
                go_simp
                with_reducible rfl
               rotate_left
               ·
                simp only [Act.put, List.setIfInBounds_toArray, List.set_cons_zero, List.set_cons_succ, i64_w, i32_w]
                rfl
               refine pure_ (i := 4) (N := some 61) (v := ?_) (a' := ?_) (mkB 9 23) rfl rfl (any_of HT_.out (by kernel_rfl)) (fun _ _ _ h => h) (Or.inl ⟨by rfl, ?_⟩) ?_ ?_
               rotate_left
               ·
                intro w'
                go_simp
                with_reducible rfl
               rotate_left
               ·
                simp only [Act.put, List.setIfInBounds_toArray, List.set_cons_zero, List.set_cons_succ, i64_w, i32_w]
                rfl
               refine pure_ (i := 5) (N := some 62) (v := ?_) (a' := ?_) (mkB 9 55) rfl rfl (any_of HT_.out (by kernel_rfl)) (fun _ _ _ h => h) (Or.inl ⟨by rfl, ?_⟩) ?_ ?_
               rotate_left
               ·
                intro w'
                go_simp
                with_reducible rfl
               rotate_left
               ·
                simp only [Act.put, List.setIfInBounds_toArray, List.set_cons_zero, List.set_cons_succ, i64_w, i32_w]
                rfl
               refine pure_ (i := 6) (N := some 63) (v := ?_) (a' := ?_) (mkB 9 119) rfl rfl (any_of HT_.out (by kernel_rfl)) (fun _ _ _ h => h) (Or.inl ⟨by rfl, ?_⟩) ?_ ?_
               rotate_left
               ·
                intro w'
                go_simp
                with_reducible rfl
               rotate_left
               ·
                simp only [Act.put, List.setIfInBounds_toArray, List.set_cons_zero, List.set_cons_succ, i64_w, i32_w]
                rfl
               refine take_ (i := 3) (N := some 60) (v := ?_) (a' := ?_) (mkB 9 127) rfl rfl (take_ofW HT_.out HW_.out (by kernel_rfl)) (fun _ _ _ h => h) (Or.inl ⟨by rfl, ?_⟩) hHeld ?_ ?_
               rotate_left
               ·
                rintro w' ⟨s0, s1⟩
                go_simp
                with_reducible rfl
               rotate_left
               ·
                simp only [Act.put, List.setIfInBounds_toArray, List.set_cons_zero, List.set_cons_succ, i64_w, i32_w]
                rfl
               refine take_ (i := 7) (N := some 64) (v := ?_) (a' := ?_) (mkB 9 255) rfl rfl (take_ofW HT_.out HW_.out (by kernel_rfl)) (fun _ _ _ h => h) (Or.inl ⟨by rfl, ?_⟩) hHeld ?_ ?_
               rotate_left
               ·
                rintro w' ⟨s0, s1⟩
                go_simp
                with_reducible rfl
               rotate_left
               ·
                simp only [Act.put, List.setIfInBounds_toArray, List.set_cons_zero, List.set_cons_succ, i64_w, i32_w]
                rfl
               refine pure_ (i := 8) (N := some 65) (v := ?_) (a' := ?_) (mkB 9 511) rfl rfl (any_of HT_.out (by kernel_rfl)) (fun _ _ _ h => h) (Or.inl ⟨by rfl, ?_⟩) ?_ ?_
               rotate_left
               ·
                intro w'
                go_simp
                with_reducible rfl
               rotate_left
               ·
                simp only [Act.put, List.setIfInBounds_toArray, List.set_cons_zero, List.set_cons_succ, i64_w, i32_w]
                rfl
               refine done_ (done_of HT_.out (by kernel_rfl)) ?_
               try go_wp2
               replace HO_5 := Aside0.mk (Kd.R_drew HO_5.out)
               replace BK285 := Aside0.mk (blk_drew BK285.out)
               replace HB := Aside0.mk (below_drew1 HB.out)
               have p299 : 0 ≤ (x10_3 : Int) := of_decide_eq_true (by first | (with_reducible assumption) | assumption)
               have q299 : x10_3 < (x5_1.length : Int) := of_decide_eq_true (by first | (with_reducible assumption) | assumption)
               obtain ⟨ad299, e299, hx299_0⟩ := Kd.at_int (Kd.R_reads' HO_5.out).2.2 x10_3 p299 q299
               obtain rfl : ad295 = ad299 := (by injection e299)
               replace p299 := eq_true p299
               replace q299 := eq_true q299
               have p300 : 0 ≤ (x7_2 : Int) := of_decide_eq_true (by first | (with_reducible assumption) | assumption)
               have q300 : x7_2 < (x5_1.length : Int) := of_decide_eq_true (by first | (with_reducible assumption) | assumption)
               obtain ⟨ad300, e300, hx300_0⟩ := Kd.at_int (Kd.R_reads' HO_5.out).2.2 x7_2 p300 q300
               obtain rfl : ad295 = ad300 := (by injection e300)
               replace p300 := eq_true p300
               replace q300 := eq_true q300
               refine start_ (n := 9) (S := fun w' => w'.cell? (ad295.add (x10_3).toNat) = some (.int .i64 (rd x5_1 x10_3)) ∧ w'.cell? (ad295.add (x7_2).toNat) = some (.int .i64 (rd x5_1 x7_2))) (ds := []) #[false, false, false, false, false, false, false, false, false] (by kernel_rfl) rfl rfl ⟨hx299_0, hx300_0⟩ (fun hHeld => ?_); refine with_tabW rillmeterref12_Get.tab15 rillmeterref12_Get.bits15 (fun HT_ HW_ => ?_)
               generalize w30.drew = w31 at HO_5 BK285 HB hx299_0 hx300_0 hHeld ⊢
               refine pure_ (i := 0) (N := some 68) (v := ?_) (a' := ?_) (mkB 9 1) rfl rfl (any_of HT_.out (by kernel_rfl)) (fun _ _ _ h => h) (Or.inl ⟨by rfl, ?_⟩) ?_ ?_
               rotate_left
               ·
                intro w'
                go_simp
                with_reducible rfl
               rotate_left
               ·
                simp only [Act.put, List.setIfInBounds_toArray, List.set_cons_zero, List.set_cons_succ, i64_w, i32_w]
                rfl
               refine pure_ (i := 1) (N := some 69) (v := ?_) (a' := ?_) (mkB 9 3) rfl rfl (any_of HT_.out (by kernel_rfl)) (fun _ _ _ h => h) (Or.inl ⟨by rfl, ?_⟩) ?_ ?_
               rotate_left
               ·
                intro w'
                go_simp
                with_reducible rfl
               rotate_left
               ·
                simp only [Act.put, List.setIfInBounds_toArray, List.set_cons_zero, List.set_cons_succ, i64_w, i32_w]
                rfl
               refine pure_ (i := 2) (N := some 70) (v := ?_) (a' := ?_) (mkB 9 7) rfl rfl (any_of HT_.out (by kernel_rfl)) (fun _ _ _ h => h) (Or.inl ⟨by rfl, ?_⟩) ?_ ?_
               rotate_left
               ·
                intro w'
                go_simp
                with_reducible rfl
               rotate_left
               ·
                simp only [Act.put, List.setIfInBounds_toArray, List.set_cons_zero, List.set_cons_succ, i64_w, i32_w]
                rfl
               refine pure_ (i := 4) (N := some 72) (v := ?_) (a' := ?_) (mkB 9 23) rfl rfl (any_of HT_.out (by kernel_rfl)) (fun _ _ _ h => h) (Or.inl ⟨by rfl, ?_⟩) ?_ ?_
               rotate_left
               ·
                intro w'
                go_simp
                with_reducible rfl
               rotate_left
               ·
                simp only [Act.put, List.setIfInBounds_toArray, List.set_cons_zero, List.set_cons_succ, i64_w, i32_w]
                rfl
               refine pure_ (i := 5) (N := some 73) (v := ?_) (a' := ?_) (mkB 9 55) rfl rfl (any_of HT_.out (by kernel_rfl)) (fun _ _ _ h => h) (Or.inl ⟨by rfl, ?_⟩) ?_ ?_
               rotate_left
               ·
                intro w'
                go_simp
                with_reducible rfl
               rotate_left
               ·
                simp only [Act.put, List.setIfInBounds_toArray, List.set_cons_zero, List.set_cons_succ, i64_w, i32_w]
                rfl
               refine pure_ (i := 6) (N := some 74) (v := ?_) (a' := ?_) (mkB 9 119) rfl rfl (any_of HT_.out (by kernel_rfl)) (fun _ _ _ h => h) (Or.inl ⟨by rfl, ?_⟩) ?_ ?_
               rotate_left
               ·
                intro w'
                go_simp
                with_reducible rfl
               rotate_left
               ·
                simp only [Act.put, List.setIfInBounds_toArray, List.set_cons_zero, List.set_cons_succ, i64_w, i32_w]
                rfl
               refine take_ (i := 3) (N := some 71) (v := ?_) (a' := ?_) (mkB 9 127) rfl rfl (take_ofW HT_.out HW_.out (by kernel_rfl)) (fun _ _ _ h => h) (Or.inl ⟨by rfl, ?_⟩) hHeld ?_ ?_
               rotate_left
               ·
                rintro w' ⟨s0, s1⟩
                go_simp
                with_reducible rfl
               rotate_left
               ·
                simp only [Act.put, List.setIfInBounds_toArray, List.set_cons_zero, List.set_cons_succ, i64_w, i32_w]
                rfl
               refine take_ (i := 7) (N := some 75) (v := ?_) (a' := ?_) (mkB 9 255) rfl rfl (take_ofW HT_.out HW_.out (by kernel_rfl)) (fun _ _ _ h => h) (Or.inl ⟨by rfl, ?_⟩) hHeld ?_ ?_
               rotate_left
               ·
                rintro w' ⟨s0, s1⟩
                go_simp
                with_reducible rfl
               rotate_left
               ·
                simp only [Act.put, List.setIfInBounds_toArray, List.set_cons_zero, List.set_cons_succ, i64_w, i32_w]
                rfl
               refine pure_ (i := 8) (N := some 76) (v := ?_) (a' := ?_) (mkB 9 511) rfl rfl (any_of HT_.out (by kernel_rfl)) (fun _ _ _ h => h) (Or.inl ⟨by rfl, ?_⟩) ?_ ?_
               rotate_left
               ·
                intro w'
                go_simp
                with_reducible rfl
               rotate_left
               ·
                simp only [Act.put, List.setIfInBounds_toArray, List.set_cons_zero, List.set_cons_succ, i64_w, i32_w]
                rfl
               refine done_ (done_of HT_.out (by kernel_rfl)) ?_
               try go_wp2
               go_roundg k3
               case measure => have := HK1.out; have := HK2.out; have := HK3.out; omega
               case rel => exact ⟨(x8_3), (wrap64 (x9_3 + 1)), (wrap64 (x10_3 + 1)), (by first | rfl | (simp; done) | (simp [*]; done)), (by first | rfl | (simp; done) | (simp [*]; done)), (by first | rfl | (simp; done) | (simp [*]; done)), H', ⟨by have := HK1.out; have := HK2.out; have := HK3.out; omega⟩, ⟨pR HO_5⟩, ⟨pB BK285⟩, ⟨pH HB⟩⟩
              ·
               rw [if_neg c29] at H
               have c29b0 : decide ((rd x5_1 x7_2) < (rd x5_1 x10_3)) = false := decide_eq_false c29
               clear c29
               have H' := Aside0.mk H
               clear H
               try go_wp2
               replace HO_5 := Aside0.mk (Kd.R_drew HO_5.out)
               replace BK285 := Aside0.mk (blk_drew BK285.out)
               replace HB := Aside0.mk (below_drew1 HB.out)
               have p295 : 0 ≤ (x10_3 : Int) := of_decide_eq_true (by first | (with_reducible assumption) | assumption)
               have q295 : x10_3 < (x5_1.length : Int) := of_decide_eq_true (by first | (with_reducible assumption) | assumption)
               obtain ⟨ad295, e295, hx295_0⟩ := Kd.at_int (Kd.R_reads' HO_5.out).2.2 x10_3 p295 q295
               cases e295
               replace p295 := eq_true p295
               replace q295 := eq_true q295
               have p296 : 0 ≤ (x7_2 : Int) := of_decide_eq_true (by first | (with_reducible assumption) | assumption)
               have q296 : x7_2 < (x5_1.length : Int) := of_decide_eq_true (by first | (with_reducible assumption) | assumption)
               obtain ⟨ad296, e296, hx296_0⟩ := Kd.at_int (Kd.R_reads' HO_5.out).2.2 x7_2 p296 q296
               obtain rfl : ad295 = ad296 := (by injection e296)
               replace p296 := eq_true p296
               replace q296 := eq_true q296
               refine start_ (n := 9) (S := fun w' => w'.cell? (ad295.add (x10_3).toNat) = some (.int .i64 (rd x5_1 x10_3)) ∧ w'.cell? (ad295.add (x7_2).toNat) = some (.int .i64 (rd x5_1 x7_2))) (ds := []) #[false, false, false, false, false, false, false, false, false] (by kernel_rfl) rfl rfl ⟨hx295_0, hx296_0⟩ (fun hHeld => ?_); refine with_tabW rillmeterref12_Get.tab13 rillmeterref12_Get.bits13 (fun HT_ HW_ => ?_)
               generalize wr.drew = w32 at HO_5 BK285 HB hx295_0 hx296_0 hHeld ⊢
               refine pure_ (i := 0) (N := some 57) (v := ?_) (a' := ?_) (mkB 9 1) rfl rfl (any_of HT_.out (by kernel_rfl)) (fun _ _ _ h => h) (Or.inl ⟨by rfl, ?_⟩) ?_ ?_
               rotate_left
               ·
                intro w'
                go_simp
                with_reducible rfl
               rotate_left
               ·
                simp only [Act.put, List.setIfInBounds_toArray, List.set_cons_zero, List.set_cons_succ, i64_w, i32_w]
                rfl
               refine pure_ (i := 1) (N := some 58) (v := ?_) (a' := ?_) (mkB 9 3) rfl rfl (any_of HT_.out (by kernel_rfl)) (fun _ _ _ h => h) (Or.inl ⟨by rfl, ?_⟩) ?_ ?_
               rotate_left
               ·
                intro w'
                go_simp
                with_reducible rfl
               rotate_left
               ·
                simp only [Act.put, List.setIfInBounds_toArray, List.set_cons_zero, List.set_cons_succ, i64_w, i32_w]
                rfl
               refine pure_ (i := 2) (N := some 59) (v := ?_) (a' := ?_) (mkB 9 7) rfl rfl (any_of HT_.out (by kernel_rfl)) (fun _ _ _ h => h) (Or.inl ⟨by rfl, ?_⟩) ?_ ?_
               rotate_left
               ·
                intro w'
                go_simp
                with_reducible rfl
               rotate_left
               ·
                simp only [Act.put, List.setIfInBounds_toArray, List.set_cons_zero, List.set_cons_succ, i64_w, i32_w]
                rfl
               refine pure_ (i := 4) (N := some 61) (v := ?_) (a' := ?_) (mkB 9 23) rfl rfl (any_of HT_.out (by kernel_rfl)) (fun _ _ _ h => h) (Or.inl ⟨by rfl, ?_⟩) ?_ ?_
               rotate_left
               ·
                intro w'
                go_simp
                with_reducible rfl
               rotate_left
               ·
                simp only [Act.put, List.setIfInBounds_toArray, List.set_cons_zero, List.set_cons_succ, i64_w, i32_w]
                rfl
               refine pure_ (i := 5) (N := some 62) (v := ?_) (a' := ?_) (mkB 9 55) rfl rfl (any_of HT_.out (by kernel_rfl)) (fun _ _ _ h => h) (Or.inl ⟨by rfl, ?_⟩) ?_ ?_
               rotate_left
               ·
                intro w'
                go_simp
                with_reducible rfl
               rotate_left
               ·
                simp only [Act.put, List.setIfInBounds_toArray, List.set_cons_zero, List.set_cons_succ, i64_w, i32_w]
                rfl
               refine pure_ (i := 6) (N := some 63) (v := ?_) (a' := ?_) (mkB 9 119) rfl rfl (any_of HT_.out (by kernel_rfl)) (fun _ _ _ h => h) (Or.inl ⟨by rfl, ?_⟩) ?_ ?_
               rotate_left
               ·
                intro w'
                go_simp
                with_reducible rfl
               rotate_left
               ·
                simp only [Act.put, List.setIfInBounds_toArray, List.set_cons_zero, List.set_cons_succ, i64_w, i32_w]
                rfl
               refine take_ (i := 3) (N := some 60) (v := ?_) (a' := ?_) (mkB 9 127) rfl rfl (take_ofW HT_.out HW_.out (by kernel_rfl)) (fun _ _ _ h => h) (Or.inl ⟨by rfl, ?_⟩) hHeld ?_ ?_
               rotate_left
               ·
                rintro w' ⟨s0, s1⟩
                go_simp
                with_reducible rfl
               rotate_left
               ·
                simp only [Act.put, List.setIfInBounds_toArray, List.set_cons_zero, List.set_cons_succ, i64_w, i32_w]
                rfl
               refine take_ (i := 7) (N := some 64) (v := ?_) (a' := ?_) (mkB 9 255) rfl rfl (take_ofW HT_.out HW_.out (by kernel_rfl)) (fun _ _ _ h => h) (Or.inl ⟨by rfl, ?_⟩) hHeld ?_ ?_
               rotate_left
               ·
                rintro w' ⟨s0, s1⟩
                go_simp
                with_reducible rfl
               rotate_left
               ·
                simp only [Act.put, List.setIfInBounds_toArray, List.set_cons_zero, List.set_cons_succ, i64_w, i32_w]
                rfl
               refine pure_ (i := 8) (N := some 65) (v := ?_) (a' := ?_) (mkB 9 511) rfl rfl (any_of HT_.out (by kernel_rfl)) (fun _ _ _ h => h) (Or.inl ⟨by rfl, ?_⟩) ?_ ?_
               rotate_left
               ·
                intro w'
                go_simp
                with_reducible rfl
               rotate_left
               ·
                simp only [Act.put, List.setIfInBounds_toArray, List.set_cons_zero, List.set_cons_succ, i64_w, i32_w]
                rfl
               refine done_ (done_of HT_.out (by kernel_rfl)) ?_
               try go_wp2
               replace HO_5 := Aside0.mk (Kd.R_drew HO_5.out)
               replace BK285 := Aside0.mk (blk_drew BK285.out)
               replace HB := Aside0.mk (below_drew1 HB.out)
               have p299 : 0 ≤ (x10_3 : Int) := of_decide_eq_true (by first | (with_reducible assumption) | assumption)
               have q299 : x10_3 < (x5_1.length : Int) := of_decide_eq_true (by first | (with_reducible assumption) | assumption)
               obtain ⟨ad299, e299, hx299_0⟩ := Kd.at_int (Kd.R_reads' HO_5.out).2.2 x10_3 p299 q299
               obtain rfl : ad295 = ad299 := (by injection e299)
               replace p299 := eq_true p299
               replace q299 := eq_true q299
               have p300 : 0 ≤ (x7_2 : Int) := of_decide_eq_true (by first | (with_reducible assumption) | assumption)
               have q300 : x7_2 < (x5_1.length : Int) := of_decide_eq_true (by first | (with_reducible assumption) | assumption)
               obtain ⟨ad300, e300, hx300_0⟩ := Kd.at_int (Kd.R_reads' HO_5.out).2.2 x7_2 p300 q300
               obtain rfl : ad295 = ad300 := (by injection e300)
               replace p300 := eq_true p300
               replace q300 := eq_true q300
               refine start_ (n := 9) (S := fun w' => w'.cell? (ad295.add (x10_3).toNat) = some (.int .i64 (rd x5_1 x10_3)) ∧ w'.cell? (ad295.add (x7_2).toNat) = some (.int .i64 (rd x5_1 x7_2))) (ds := []) #[false, false, false, false, false, false, false, false, false] (by kernel_rfl) rfl rfl ⟨hx299_0, hx300_0⟩ (fun hHeld => ?_); refine with_tabW rillmeterref12_Get.tab15 rillmeterref12_Get.bits15 (fun HT_ HW_ => ?_)
               generalize w32.drew = w33 at HO_5 BK285 HB hx299_0 hx300_0 hHeld ⊢
               refine pure_ (i := 0) (N := some 68) (v := ?_) (a' := ?_) (mkB 9 1) rfl rfl (any_of HT_.out (by kernel_rfl)) (fun _ _ _ h => h) (Or.inl ⟨by rfl, ?_⟩) ?_ ?_
               rotate_left
               ·
                intro w'
                go_simp
                with_reducible rfl
               rotate_left
               ·
                simp only [Act.put, List.setIfInBounds_toArray, List.set_cons_zero, List.set_cons_succ, i64_w, i32_w]
                rfl
               refine pure_ (i := 1) (N := some 69) (v := ?_) (a' := ?_) (mkB 9 3) rfl rfl (any_of HT_.out (by kernel_rfl)) (fun _ _ _ h => h) (Or.inl ⟨by rfl, ?_⟩) ?_ ?_
               rotate_left
               ·
                intro w'
                go_simp
                with_reducible rfl
               rotate_left
               ·
                simp only [Act.put, List.setIfInBounds_toArray, List.set_cons_zero, List.set_cons_succ, i64_w, i32_w]
                rfl
               refine pure_ (i := 2) (N := some 70) (v := ?_) (a' := ?_) (mkB 9 7) rfl rfl (any_of HT_.out (by kernel_rfl)) (fun _ _ _ h => h) (Or.inl ⟨by rfl, ?_⟩) ?_ ?_
               rotate_left
               ·
                intro w'
                go_simp
                with_reducible rfl
               rotate_left
               ·
                simp only [Act.put, List.setIfInBounds_toArray, List.set_cons_zero, List.set_cons_succ, i64_w, i32_w]
                rfl
               refine pure_ (i := 4) (N := some 72) (v := ?_) (a' := ?_) (mkB 9 23) rfl rfl (any_of HT_.out (by kernel_rfl)) (fun _ _ _ h => h) (Or.inl ⟨by rfl, ?_⟩) ?_ ?_
               rotate_left
               ·
                intro w'
                go_simp
                with_reducible rfl
               rotate_left
               ·
                simp only [Act.put, List.setIfInBounds_toArray, List.set_cons_zero, List.set_cons_succ, i64_w, i32_w]
                rfl
               refine pure_ (i := 5) (N := some 73) (v := ?_) (a' := ?_) (mkB 9 55) rfl rfl (any_of HT_.out (by kernel_rfl)) (fun _ _ _ h => h) (Or.inl ⟨by rfl, ?_⟩) ?_ ?_
               rotate_left
               ·
                intro w'
                go_simp
                with_reducible rfl
               rotate_left
               ·
                simp only [Act.put, List.setIfInBounds_toArray, List.set_cons_zero, List.set_cons_succ, i64_w, i32_w]
                rfl
               refine pure_ (i := 6) (N := some 74) (v := ?_) (a' := ?_) (mkB 9 119) rfl rfl (any_of HT_.out (by kernel_rfl)) (fun _ _ _ h => h) (Or.inl ⟨by rfl, ?_⟩) ?_ ?_
               rotate_left
               ·
                intro w'
                go_simp
                with_reducible rfl
               rotate_left
               ·
                simp only [Act.put, List.setIfInBounds_toArray, List.set_cons_zero, List.set_cons_succ, i64_w, i32_w]
                rfl
               refine take_ (i := 3) (N := some 71) (v := ?_) (a' := ?_) (mkB 9 127) rfl rfl (take_ofW HT_.out HW_.out (by kernel_rfl)) (fun _ _ _ h => h) (Or.inl ⟨by rfl, ?_⟩) hHeld ?_ ?_
               rotate_left
               ·
                rintro w' ⟨s0, s1⟩
                go_simp
                with_reducible rfl
               rotate_left
               ·
                simp only [Act.put, List.setIfInBounds_toArray, List.set_cons_zero, List.set_cons_succ, i64_w, i32_w]
                rfl
               refine take_ (i := 7) (N := some 75) (v := ?_) (a' := ?_) (mkB 9 255) rfl rfl (take_ofW HT_.out HW_.out (by kernel_rfl)) (fun _ _ _ h => h) (Or.inl ⟨by rfl, ?_⟩) hHeld ?_ ?_
               rotate_left
               ·
                rintro w' ⟨s0, s1⟩
                go_simp
                with_reducible rfl
               rotate_left
               ·
                simp only [Act.put, List.setIfInBounds_toArray, List.set_cons_zero, List.set_cons_succ, i64_w, i32_w]
                rfl
               refine pure_ (i := 8) (N := some 76) (v := ?_) (a' := ?_) (mkB 9 511) rfl rfl (any_of HT_.out (by kernel_rfl)) (fun _ _ _ h => h) (Or.inl ⟨by rfl, ?_⟩) ?_ ?_
               rotate_left
               ·
                intro w'
                go_simp
                with_reducible rfl
               rotate_left
               ·
                simp only [Act.put, List.setIfInBounds_toArray, List.set_cons_zero, List.set_cons_succ, i64_w, i32_w]
                rfl
               refine done_ (done_of HT_.out (by kernel_rfl)) ?_
               try go_wp2
               go_roundg k3
               case measure => have := HK1.out; have := HK2.out; have := HK3.out; omega
               case rel => exact ⟨(x8_3), (x9_3), (wrap64 (x10_3 + 1)), (by first | rfl | (simp; done) | (simp [*]; done)), (by first | rfl | (simp; done) | (simp [*]; done)), (by first | rfl | (simp; done) | (simp [*]; done)), H', ⟨by have := HK1.out; have := HK2.out; have := HK3.out; omega⟩, ⟨pR HO_5⟩, ⟨pB BK285⟩, ⟨pH HB⟩⟩
            ·
             rw [if_neg c22] at H
             exact absurd H (by simp)
           ·
            rw [if_neg c21] at H
            exact absurd H (by simp)
          ·
           rw [if_neg c20] at H
           exact absurd H (by simp)
         ·
          rw [if_neg c19] at H
          have c19b0 : decide (x10_3 < (x5_1.length : Int)) = false := decide_eq_false c19
          clear c19
          by_cases c34 : x8_3 ≤ (wrap64 ((x5_1.length : Int) / 2))
          ·
           rw [if_pos c34] at H
           have c34b0 : decide (x8_3 ≤ (wrap64 ((x5_1.length : Int) / 2))) = true := decide_eq_true c34
           clear c34
           by_cases c35 : x9_3 ≤ (wrap64 ((x5_1.length : Int) / 2))
           ·
            rw [if_pos c35] at H
            have c35b0 : decide (x9_3 ≤ (wrap64 ((x5_1.length : Int) / 2))) = true := decide_eq_true c35
            clear c35
            by_cases c36 : 0 ≤ x7_2
            ·
             rw [if_pos c36] at H
             have c36b0 : decide (0 ≤ x7_2) = true := decide_eq_true c36
             clear c36
             by_cases c37 : x7_2 < (x5_1.length : Int)
             ·
              rw [if_pos c37] at H
              have c37b0 : decide (x7_2 < (x5_1.length : Int)) = true := decide_eq_true c37
              clear c37
              obtain rfl := Option.some.inj H
              have p294 : 0 ≤ (x7_2 : Int) := of_decide_eq_true (by first | (with_reducible assumption) | assumption)
              have q294 : x7_2 < (x5_1.length : Int) := of_decide_eq_true (by first | (with_reducible assumption) | assumption)
              obtain ⟨ad294, e294, hx294_0⟩ := Kd.at_int (Kd.R_reads' HO_5.out).2.2 x7_2 p294 q294
              cases e294
              replace p294 := eq_true p294
              replace q294 := eq_true q294
              go_wp2
              go_ret
              exact ⟨by first | rfl | (simp [errW_none, errW_some] <;> rfl) | (simp [*, errW_none, errW_some] <;> rfl), by repeat (first | (with_reducible first | exact HB.out | apply below_alloc | apply pw_below_drewN | apply below_drew1 | refine below_set ?_ GE285.out) | exact HB.out)⟩
             ·
              rw [if_neg c37] at H
              exact absurd H (by simp)
            ·
             rw [if_neg c36] at H
             exact absurd H (by simp)
           ·
            rw [if_neg c35] at H
            have c35b0 : decide (x9_3 ≤ (wrap64 ((x5_1.length : Int) / 2))) = false := decide_eq_false c35
            clear c35
            have H' := Aside0.mk H
            clear H
            go_wp2
            go_roundg k3
            case measure => have := HK1.out; have := HK2.out; have := HK3.out; omega
            case rel => exact ⟨(wrap64 (x7_2 + 1)), (by first | rfl | (simp; done) | (simp [*]; done)), H', ⟨by have := HK1.out; have := HK2.out; have := HK3.out; omega⟩, ⟨pR HO_5⟩, ⟨pB BK285⟩, ⟨pH HB⟩⟩
          ·
           rw [if_neg c34] at H
           have c34b0 : decide (x8_3 ≤ (wrap64 ((x5_1.length : Int) / 2))) = false := decide_eq_false c34
           clear c34
           have H' := Aside0.mk H
           clear H
           go_wp2
           go_roundg k3
           case measure => have := HK1.out; have := HK2.out; have := HK3.out; omega
           case rel => exact ⟨(wrap64 (x7_2 + 1)), (by first | rfl | (simp; done) | (simp [*]; done)), H', ⟨by have := HK1.out; have := HK2.out; have := HK3.out; omega⟩, ⟨pR HO_5⟩, ⟨pB BK285⟩, ⟨pH HB⟩⟩
      ·
       rw [if_neg c17] at H
       have c17b0 : decide (x7_2 < (x5_1.length : Int)) = false := decide_eq_false c17
       clear c17
       obtain rfl := Option.some.inj H
       obtain ⟨Ao38, co38, eo38⟩ := Kd.R_slice HO_5.out
       subst eo38
       go_wp2
       go_ret
       exact ⟨by first | rfl | (simp [errW_none, errW_some] <;> rfl) | (simp [*, errW_none, errW_some] <;> rfl), by repeat (first | (with_reducible first | exact HB.out | apply below_alloc | apply pw_below_drewN | apply below_drew1 | refine below_set ?_ GE285.out) | exact HB.out)⟩

end Go.Proofs.Yteaeigpeaneicaa.G
end

section
-- Printed by gprint.py: a program of this session over the kit's print. Not trusted: Lean checks it.
namespace Go.Proofs.Yteaeigpeaneicaa.G
open Go.RowKit Go.Proofs.YteaeigpeaneicaaW.PrintWords Go.Proofs.YteaeigpeaneicaaW.PrintLast Go.Proofs.YteaeigpeaneicaaW.PrintMore
attribute [local go_sem] max2_int min2_int max_two min_two max_three min_three max_four min_four   -- for this text's walks alone
set_option linter.unusedVariables false
set_option linter.unusedSimpArgs false

/-! ### rillmeterref12_Add: function 22 -/
mutual
def rillmeterref12_Add.l0 : Nat → ByteArray → Int → Bool → List (List Int) → Int → Int → List (List Int) → Option (Int × (List (List Int)) × Bool)
 | 0, _, _, _, _, _, _, _ => none
 | k + 1, x1, x2, x8, x9, x10, x302000, x302001 => if x10 < (x302001.length : Int) then (if 0 ≤ x10 then ((rillmeterref12_Cell.f k x302000 x1 x10 ((rd_L1 x302001 x10).length : Int)).bind fun t304 => (rillmeterref12_Add.l1 k x1 x2 x8 x9 x10 ([] : List Int) t304 0 x302000 x302001)) else (none)) else (some (x302000, x9, x8))
def rillmeterref12_Add.l1 : Nat → ByteArray → Int → Bool → List (List Int) → Int → List Int → Int → Int → Int → List (List Int) → Option (Int × (List (List Int)) × Bool)
 | 0, _, _, _, _, _, _, _, _, _, _ => none
 | k + 1, x1, x2, x8, x9, x10, x11, x12, x13, x302000, x302001 => if 0 ≤ x10 then (if x10 < (x302001.length : Int) then (if x13 < ((rd_L1 x302001 x10).length : Int) then (if 0 ≤ x13 then (if x13 = x12 then ((rillmeterref12_Sign.f k x302000 x1 x10).bind fun t311 => (if x8 = true then ((rillmeterref12_Fits.f (wrap64 ((rd (rd_L1 x302001 x10) x13) + (wrap64 (x2 * t311))))).bind fun t312 => (if x11.length < 17592186044416 then (rillmeterref12_Add.l1 k x1 x2 t312 x9 x10 (x11 ++ [wrap64 ((rd (rd_L1 x302001 x10) x13) + (wrap64 (x2 * t311)))]) x12 (wrap64 (x13 + 1)) x302000 x302001) else (none))) else (if x11.length < 17592186044416 then (rillmeterref12_Add.l1 k x1 x2 false x9 x10 (x11 ++ [wrap64 ((rd (rd_L1 x302001 x10) x13) + (wrap64 (x2 * t311)))]) x12 (wrap64 (x13 + 1)) x302000 x302001) else (none)))) else (if x8 = true then ((rillmeterref12_Fits.f (rd (rd_L1 x302001 x10) x13)).bind fun t319 => (if x11.length < 17592186044416 then (rillmeterref12_Add.l1 k x1 x2 t319 x9 x10 (x11 ++ [rd (rd_L1 x302001 x10) x13]) x12 (wrap64 (x13 + 1)) x302000 x302001) else (none))) else (if x11.length < 17592186044416 then (rillmeterref12_Add.l1 k x1 x2 false x9 x10 (x11 ++ [rd (rd_L1 x302001 x10) x13]) x12 (wrap64 (x13 + 1)) x302000 x302001) else (none)))) else (none)) else (if x9.length < 5864062014805 then (rillmeterref12_Add.l0 k x1 x2 x8 (x9 ++ [x11]) (wrap64 (x10 + 1)) x302000 x302001) else (none))) else (none)) else (none)
end
def rillmeterref12_Add.f (k : Nat) (a0_0 : Int) (l0_1 : List (List Int)) (a1 : ByteArray) (a2 : Int) : Option (Int × (List (List Int)) × Bool) := rillmeterref12_Add.l0 k a1 a2 true ([] : List (List Int)) 0 a0_0 l0_1
theorem rillmeterref12_Add.mono_l : ∀ k, (∀ y0 y1 y2 y3 y4 y5 y6, LeO (rillmeterref12_Add.l0 k y0 y1 y2 y3 y4 y5 y6) (rillmeterref12_Add.l0 (k + 1) y0 y1 y2 y3 y4 y5 y6)) ∧ (∀ y0 y1 y2 y3 y4 y5 y6 y7 y8 y9, LeO (rillmeterref12_Add.l1 k y0 y1 y2 y3 y4 y5 y6 y7 y8 y9) (rillmeterref12_Add.l1 (k + 1) y0 y1 y2 y3 y4 y5 y6 y7 y8 y9))
 | 0 => ⟨fun _ _ _ _ _ _ _ r h => by simp [rillmeterref12_Add.l0] at h, fun _ _ _ _ _ _ _ _ _ _ r h => by simp [rillmeterref12_Add.l1] at h⟩
 | k + 1 => by
  obtain ⟨ih0, ih1⟩ := rillmeterref12_Add.mono_l k
  refine ⟨?_, ?_⟩
  ·
   intro y0 y1 y2 y3 y4 y5 y6
   unfold rillmeterref12_Add.l0
   repeat' first
   | (with_reducible exact ih0 _ _ _ _ _ _ _)
   | (with_reducible exact ih1 _ _ _ _ _ _ _ _ _ _)
   | (with_reducible exact rillmeterref12_Cell.mono _ _ _ _ _)
   | (with_reducible exact rillmeterref12_Sign.mono _ _ _ _)
   | (with_reducible exact LeO.refl _)
   | (with_reducible exact LeO.none _)
   | (with_reducible refine LeO.ite ?_ ?_)
   | (with_reducible refine LeO.bind ?_ (fun _ => ?_))
   | exact ih0 _ _ _ _ _ _ _
   | exact ih1 _ _ _ _ _ _ _ _ _ _
   | exact rillmeterref12_Cell.mono _ _ _ _ _
   | exact rillmeterref12_Sign.mono _ _ _ _
   | exact LeO.none _
   | refine LeO.ite ?_ ?_
   | refine LeO.bind ?_ (fun _ => ?_)
  ·
   intro y0 y1 y2 y3 y4 y5 y6 y7 y8 y9
   unfold rillmeterref12_Add.l1
   repeat' first
   | (with_reducible exact ih0 _ _ _ _ _ _ _)
   | (with_reducible exact ih1 _ _ _ _ _ _ _ _ _ _)
   | (with_reducible exact rillmeterref12_Cell.mono _ _ _ _ _)
   | (with_reducible exact rillmeterref12_Sign.mono _ _ _ _)
   | (with_reducible exact LeO.refl _)
   | (with_reducible exact LeO.none _)
   | (with_reducible refine LeO.ite ?_ ?_)
   | (with_reducible refine LeO.bind ?_ (fun _ => ?_))
   | exact ih0 _ _ _ _ _ _ _
   | exact ih1 _ _ _ _ _ _ _ _ _ _
   | exact rillmeterref12_Cell.mono _ _ _ _ _
   | exact rillmeterref12_Sign.mono _ _ _ _
   | exact LeO.none _
   | refine LeO.ite ?_ ?_
   | refine LeO.bind ?_ (fun _ => ?_)
theorem rillmeterref12_Add.mono : ∀ a0 a1 a2 a3 k, LeO (rillmeterref12_Add.f k a0 a1 a2 a3) (rillmeterref12_Add.f (k + 1) a0 a1 a2 a3) := by
 intro a0 a1 a2 a3 k
 obtain ⟨ih0, ih1⟩ := rillmeterref12_Add.mono_l k
 unfold rillmeterref12_Add.f
 repeat' first
   | (with_reducible exact ih0 _ _ _ _ _ _ _)
   | (with_reducible exact ih1 _ _ _ _ _ _ _ _ _ _)
   | (with_reducible exact rillmeterref12_Cell.mono _ _ _ _ _)
   | (with_reducible exact rillmeterref12_Sign.mono _ _ _ _)
   | (with_reducible exact LeO.refl _)
   | (with_reducible exact LeO.none _)
   | (with_reducible refine LeO.ite ?_ ?_)
   | (with_reducible refine LeO.bind ?_ (fun _ => ?_))
   | exact ih0 _ _ _ _ _ _ _
   | exact ih1 _ _ _ _ _ _ _ _ _ _
   | exact rillmeterref12_Cell.mono _ _ _ _ _
   | exact rillmeterref12_Sign.mono _ _ _ _
   | exact LeO.none _
   | refine LeO.ite ?_ ?_
   | refine LeO.bind ?_ (fun _ => ?_)
def rillmeterref12_Add.T7 : Bool × List (List Nat × List Nat) := (true, [([], []), ([0], [0]), ([], []), ([], []), ([], []), ([4], [4]), ([], []), ([5, 6], [5, 6]), ([7], [7]), ([8], [8]), ([1, 2, 3, 9], [1, 2, 3, 9]), ([10, 10, 0, 1, 2, 3, 4, 5, 6, 7, 8, 9, 10], [10])])
def rillmeterref12_Add.B7 : List Nat := [0, 1, 0, 0, 0, 16, 0, 112, 240, 496, 1023, 2047]
theorem rillmeterref12_Add.tab7 : rtab .any (opsOf Try.f22 7) = rillmeterref12_Add.T7 := by kernel_rfl
theorem rillmeterref12_Add.bits7 : waitsOk rillmeterref12_Add.T7.2 rillmeterref12_Add.B7 = true := by kernel_rfl
set_option maxHeartbeats 8000000 in
set_option maxRecDepth 100000 in
theorem rillmeterref12_Add.calls (k : Nat) (a0_0 : Int) (A0_1 : Option Addr) (c0_1 : Nat) (l0_1 : List (List Int)) (a1 : ByteArray) (a2 : Int) (r1 : Int) (r2 : List (List Int)) (r3 : Bool) (w : World) (hr0_1 : Kd.C (Kd.slice 3 (Kd.int .i64)) w A0_1 l0_1.length l0_1) (hc0_1 : l0_1.length ≤ c0_1) (h : rillmeterref12_Add.f k a0_0 l0_1 a1 a2 = some (r1, r2, r3)) :
  Calls Try.prog 22 #[.agg #[.int .u64 a0_0, .slice A0_1 l0_1.length c0_1], .string a1, .int .i64 a2] w fun e w' => ∃ v1_ : Value, e = .returned (.tuple #[.agg #[.int .u64 r1, v1_], .bool r3]) ∧ Kd.S (Kd.slice 3 (Kd.int .i64)) 33 w' w.heap.size (fun _ => True) v1_ r2 ∧ Below w.heap.size w w' := by
 have hu30 := Try.underlying30
 have HR0_1 := Aside0.mk hr0_1
 have HC0_1 := Aside0.mk hc0_1
 clear hr0_1 hc0_1
 have HB := Aside0.mk (Below.refl w.heap.size w)
 have H : (rillmeterref12_Add.l0 k a1 a2 true ([] : List (List Int)) 0 a0_0 l0_1) = some (r1, r2, r3) := h
 clear h
 have H' := Aside0.mk H
 clear H
 go_enter Try.func22, Try.ntmps22
 go_wp2_with (first | ((with_reducible refine gate_dst (N := 3) rfl ?_); refine box_event ?hg (N := 3) ?hd (cs := #[.int .u64 a0_0, .slice A0_1 l0_1.length c0_1]) (t := 30) ?hr ?_; (case hd => rfl); (case hg => rfl); (case hr => first | (go_simp; done) | (go_simp; rfl)); intro gb301 hg w4 hbox hb; have BK301 := Aside0.mk (hbox); have GW301 := geN HB hg; have GE301 := geN HB hg; replace HB := stB HB hb; clear hb hbox hg) | ((with_reducible refine gate_dst (N := 6) rfl ?_); refine box_event ?hg (N := 6) ?hd (cs := #[.int .u64 0, .slice none 0 0]) (t := 30) ?hr ?_; (case hd => rfl); (case hg => rfl); (case hr => first | (go_simp; done) | (go_simp; rfl)); intro gb302 hg w5 hbox hb; have BK302 := Aside0.mk (hbox); have GW302 := geN HB hg; have GE302 := geN HB hg; have NB301_302 := neL BK301 hg; have NB302_301 := neG BK301 hg; replace BK301 := bB BK301 hb; replace HB := stB HB hb; clear hb hbox hg))
 go_loopg [8, 9, 10] k (fun kq v8 v9 v10 w' => ∃ (x8_1 : Bool) (x9_1 : List (List Int)) (x10_1 : Int), v8 = .bool x8_1 ∧ v10 = .int .i64 x10_1 ∧ Aside0 (rillmeterref12_Add.l0 kq a1 a2 x8_1 x9_1 x10_1 a0_0 l0_1 = some (r1, r2, r3)) ∧ Aside0 (kq ≤ k) ∧ Aside0 (Kd.S (Kd.slice 3 (Kd.int .i64)) 33 w' w.heap.size (fun _ => True) v9 x9_1) ∧ Aside0 (w'.heap[gb301]? = some (.cells #[.int .u64 a0_0, (.slice A0_1 l0_1.length c0_1)] 30 (0, 0))) ∧ Aside0 (w'.heap[gb302]? = some (.cells #[.int .u64 0, (.slice none 0 0)] 30 (0, 0))) ∧ Aside0 (Below w.heap.size w w'))
 case atStart => exact ⟨(true), (([] : List (List Int))), (0), (by first | rfl | (simp; done) | (simp [*]; done)), (by first | rfl | (simp; done) | (simp [*]; done)), H', ⟨Nat.le_refl _⟩, ⟨by first | exact Kd.S_nil _ _ _ _ _ | exact Kd.N_nil _ _ _ _ _ | exact Kd.V_nil _ _ _ _ _ | exact Kd.Q_nil _ _ _ _ _ | exact Kd.R_nil _ _ _ _ _⟩, ⟨pB BK301⟩, ⟨pB BK302⟩, ⟨pH HB⟩⟩
 case round =>
  clear H'
  try clear c2
  try clear p2
  obtain ⟨x8_1, x9_1, x10_1, rfl, rfl, HA, HK1, HO_9, BK301, BK302, HB⟩ := hrel
  cases gk with
  | zero => exact absurd HA.out (by simp [rillmeterref12_Add.l0])
  | succ k1 =>
   have H := HA.out
   clear HA
   simp only [rillmeterref12_Add.l0] at H
   by_cases c6 : x10_1 < (l0_1.length : Int)
   ·
    rw [if_pos c6] at H
    have c6b0 : decide (x10_1 < (l0_1.length : Int)) = true := decide_eq_true c6
    clear c6
    by_cases c7 : 0 ≤ x10_1
    ·
     rw [if_pos c7] at H
     have c7b0 : decide (0 ≤ x10_1) = true := decide_eq_true c7
     clear c7
     replace H := Option.bind_eq_some_iff.mp H
     obtain ⟨t304, A80, H⟩ := H
     replace H : (rillmeterref12_Add.l1 k1 a1 a2 x8_1 x9_1 x10_1 ([] : List Int) t304 0 a0_0 l0_1) = some (r1, r2, r3) := H
     have A8 := Aside0.mk A80
     clear A80
     have H' := Aside0.mk H
     clear H
     have hnb9 := NB301_302.out
     have hnc9 := NB302_301.out
     have hcz10_0 : wr.cell? ⟨gb301, 0, none⟩ = some (.int .u64 a0_0) := (blk_cell BK301.out 0).trans rfl
     have hcz10_1 : wr.cell? ⟨gb301, 1, none⟩ = some (.slice A0_1 l0_1.length c0_1) := (blk_cell BK301.out 1).trans rfl
     have hfz10_0 := blk_frozen BK301.out 0
     have hfz10_1 := blk_frozen BK301.out 1
     try go_wp2
     replace HO_9 := Aside0.mk (Kd.S_drew HO_9.out)
     replace BK301 := Aside0.mk (blk_drew BK301.out)
     replace BK302 := Aside0.mk (blk_drew BK302.out)
     replace HB := Aside0.mk (below_drew1 HB.out)
     have p303 : 0 ≤ (x10_1 : Int) := of_decide_eq_true (by first | (with_reducible assumption) | assumption)
     have q303 : x10_1 < (l0_1.length : Int) := of_decide_eq_true (by first | (with_reducible assumption) | assumption)
     obtain ⟨ad303, A303_0, c303_0, e303, hx303_0, hl303_0, hi303_0⟩ := at_L1 HR0_1.out x10_1 p303 q303
     have hw303_0 := hx303_0
     cases e303
     replace hx303_0 := (HB.out.cell (World.block_lt_of_cell? w _ hx303_0)).trans hx303_0
     have HR303_0 := Aside0.mk hi303_0
     have HC303_0 := Aside0.mk hl303_0
     clear hi303_0 hl303_0
     replace p303 := eq_true p303
     replace q303 := eq_true q303
     refine start_ (n := 12) (S := fun w' => w'.cell? ⟨gb301, 0, none⟩ = some (.int .u64 a0_0) ∧ w'.cell? ⟨gb301, 1, none⟩ = some (.slice (some ad303) l0_1.length c0_1) ∧ w'.cell? (ad303.add (x10_1).toNat) = some (.slice A303_0 (rd_L1 l0_1 x10_1).length c303_0)) (ds := []) #[false, false, false, false, false, false, false, false, false, false, false, false] (by kernel_rfl) rfl rfl ⟨(blk_cell BK301.out 0).trans rfl, (blk_cell BK301.out 1).trans rfl, ((HB.out.cell (World.block_lt_of_cell? w _ hw303_0)).trans hw303_0)⟩ (fun hHeld => ?_); refine with_tabW rillmeterref12_Add.tab7 rillmeterref12_Add.bits7 (fun HT_ HW_ => ?_)
     generalize wr.drew = w11 at HO_9 BK301 BK302 HB HR303_0 hx303_0 hHeld ⊢
     refine pure_ (i := 0) (N := some 22) (v := ?_) (a' := ?_) (mkB 12 1) rfl rfl (any_of HT_.out (by kernel_rfl)) (fun _ _ _ h => h) (Or.inl ⟨by rfl, ?_⟩) ?_ ?_
     rotate_left
     ·
      intro w'
      go_simp
      with_reducible rfl
     rotate_left
     ·
      simp only [Act.put, List.setIfInBounds_toArray, List.set_cons_zero, List.set_cons_succ, i64_w, i32_w]
      rfl
     refine pure_ (i := 2) (N := some 24) (v := ?_) (a' := ?_) (mkB 12 5) rfl rfl (any_of HT_.out (by kernel_rfl)) (fun _ _ _ h => h) (Or.inl ⟨by rfl, ?_⟩) ?_ ?_
     rotate_left
     ·
      intro w'
      go_simp
      with_reducible rfl
     rotate_left
     ·
      simp only [Act.put, List.setIfInBounds_toArray, List.set_cons_zero, List.set_cons_succ, i64_w, i32_w]
      rfl
     refine pure_ (i := 3) (N := some 25) (v := ?_) (a' := ?_) (mkB 12 13) rfl rfl (any_of HT_.out (by kernel_rfl)) (fun _ _ _ h => h) (Or.inl ⟨by rfl, ?_⟩) ?_ ?_
     rotate_left
     ·
      intro w'
      go_simp
      with_reducible rfl
     rotate_left
     ·
      simp only [Act.put, List.setIfInBounds_toArray, List.set_cons_zero, List.set_cons_succ, i64_w, i32_w]
      rfl
     refine pure_ (i := 4) (N := some 26) (v := ?_) (a' := ?_) (mkB 12 29) rfl rfl (any_of HT_.out (by kernel_rfl)) (fun _ _ _ h => h) (Or.inl ⟨by rfl, ?_⟩) ?_ ?_
     rotate_left
     ·
      intro w'
      go_simp
      with_reducible rfl
     rotate_left
     ·
      simp only [Act.put, List.setIfInBounds_toArray, List.set_cons_zero, List.set_cons_succ, i64_w, i32_w]
      rfl
     refine pure_ (i := 6) (N := some 28) (v := ?_) (a' := ?_) (mkB 12 93) rfl rfl (any_of HT_.out (by kernel_rfl)) (fun _ _ _ h => h) (Or.inl ⟨by rfl, ?_⟩) ?_ ?_
     rotate_left
     ·
      intro w'
      go_simp
      with_reducible rfl
     rotate_left
     ·
      simp only [Act.put, List.setIfInBounds_toArray, List.set_cons_zero, List.set_cons_succ, i64_w, i32_w]
      rfl
     refine take_ (i := 1) (N := some 23) (v := ?_) (a' := ?_) (mkB 12 95) rfl rfl (take_ofW HT_.out HW_.out (by kernel_rfl)) (fun _ _ _ h => h) (Or.inl ⟨by rfl, ?_⟩) hHeld ?_ ?_
     rotate_left
     ·
      rintro w' ⟨s0, s1, s2⟩
      go_simp
      with_reducible rfl
     rotate_left
     ·
      simp only [Act.put, List.setIfInBounds_toArray, List.set_cons_zero, List.set_cons_succ, i64_w, i32_w]
      rfl
     refine take_ (i := 5) (N := some 27) (v := ?_) (a' := ?_) (mkB 12 127) rfl rfl (take_ofW HT_.out HW_.out (by kernel_rfl)) (fun _ _ _ h => h) (Or.inl ⟨by rfl, ?_⟩) hHeld ?_ ?_
     rotate_left
     ·
      rintro w' ⟨s0, s1, s2⟩
      go_simp
      with_reducible rfl
     rotate_left
     ·
      simp only [Act.put, List.setIfInBounds_toArray, List.set_cons_zero, List.set_cons_succ, i64_w, i32_w]
      rfl
     refine pure_ (i := 7) (N := some 29) (v := ?_) (a' := ?_) (mkB 12 255) rfl rfl (any_of HT_.out (by kernel_rfl)) (fun _ _ _ h => h) (Or.inl ⟨by rfl, ?_⟩) ?_ ?_
     rotate_left
     ·
      intro w'
      go_simp
      with_reducible rfl
     rotate_left
     ·
      simp only [Act.put, List.setIfInBounds_toArray, List.set_cons_zero, List.set_cons_succ, i64_w, i32_w]
      rfl
     refine take_ (i := 8) (N := some 30) (v := ?_) (a' := ?_) (mkB 12 511) rfl rfl (take_ofW HT_.out HW_.out (by kernel_rfl)) (fun _ _ _ h => h) (Or.inl ⟨by rfl, ?_⟩) hHeld ?_ ?_
     rotate_left
     ·
      rintro w' ⟨s0, s1, s2⟩
      go_simp
      with_reducible rfl
     rotate_left
     ·
      simp only [Act.put, List.setIfInBounds_toArray, List.set_cons_zero, List.set_cons_succ, i64_w, i32_w]
      rfl
     refine pure_ (i := 9) (N := some 31) (v := ?_) (a' := ?_) (mkB 12 1023) rfl rfl (any_of HT_.out (by kernel_rfl)) (fun _ _ _ h => h) (Or.inl ⟨by rfl, ?_⟩) ?_ ?_
     rotate_left
     ·
      intro w'
      go_simp
      with_reducible rfl
     rotate_left
     ·
      simp only [Act.put, List.setIfInBounds_toArray, List.set_cons_zero, List.set_cons_succ, i64_w, i32_w]
      rfl
     refine one_ (i := 10) (N := some 32) (mkB 12 2047) rfl rfl (one_of HT_.out (by kernel_rfl)) (by decide) (fun K hK => ?_)
     refine goesN_ Try.func19 #[.int .u64 a0_0, .string a1, .int .i64 x10_1, .int .i64 ((rd_L1 l0_1 x10_1).length : Int)] ?_
     with_reducible refine (rillmeterref12_Cell.calls k1 a0_0 a1 x10_1 ((rd_L1 l0_1 x10_1).length : Int) t304 _ A8.out).mono ?_
     rintro e w12 ⟨rfl, hb⟩
     refine ⟨_, rfl, ?_⟩
     replace HO_9 := Aside0.mk (Kd.S_below (pS HO_9) hb)
     replace BK301 := bB BK301 hb
     replace BK302 := bB BK302 hb
     replace HB := stB HB hb
     (try clear hb)
     (try clear hb2)
     (try clear hk)
     (try clear hi)
     refine hK.out _ _ ⟨(blk_cell BK301.out 0).trans rfl, (blk_cell BK301.out 1).trans rfl, ((HB.out.cell (World.block_lt_of_cell? w _ hw303_0)).trans hw303_0)⟩ (fun hHeld => ?_)
     clear hK K
     refine norm_ (a' := ?_) ?_ ?_
     rotate_left
     ·
      show Act.put _ (some 32) _ = _
      simp only [Act.put, List.setIfInBounds_toArray, List.set_cons_zero, List.set_cons_succ, i64_w, i32_w]
      rfl
     refine pure_ (i := 11) (N := some 12) (v := ?_) (a' := ?_) (mkB 12 4095) rfl rfl (any_of HT_.out (by kernel_rfl)) (fun _ _ _ h => h) (Or.inl ⟨by rfl, ?_⟩) ?_ ?_
     rotate_left
     ·
      intro w'
      go_simp
      with_reducible rfl
     rotate_left
     ·
      simp only [Act.put, List.setIfInBounds_toArray, List.set_cons_zero, List.set_cons_succ, i64_w, i32_w]
      rfl
     refine done_ (done_of HT_.out (by kernel_rfl)) ?_
     try go_wp2
     go_loopg [8, 11, 13] k1 (fun kq v8 v11 v13 w' => ∃ (x8_2 : Bool) (x11_2 : List Int) (x13_2 : Int), v8 = .bool x8_2 ∧ v13 = .int .i64 x13_2 ∧ Aside0 (rillmeterref12_Add.l1 kq a1 a2 x8_2 x9_1 x10_1 x11_2 t304 x13_2 a0_0 l0_1 = some (r1, r2, r3)) ∧ Aside0 (kq ≤ k1) ∧ Aside0 (Kd.S (Kd.slice 3 (Kd.int .i64)) 33 w' w.heap.size (fun k_ => some k_ ≠ (v11 : Value).ownBlock) u9 x9_1) ∧ Aside0 (Kd.R (Kd.int .i64) 3 w' w.heap.size (fun _ => True) v11 x11_2) ∧ Aside0 (w'.heap[gb301]? = some (.cells #[.int .u64 a0_0, (.slice (some ad303) l0_1.length c0_1)] 30 (0, 0))) ∧ Aside0 (w'.heap[gb302]? = some (.cells #[.int .u64 0, (.slice none 0 0)] 30 (0, 0))) ∧ Aside0 (Below w.heap.size w w'))
     case atStart => exact ⟨(x8_1), (([] : List Int)), (0), (by first | rfl | (simp; done) | (simp [*]; done)), (by first | rfl | (simp; done) | (simp [*]; done)), H', ⟨Nat.le_refl _⟩, ⟨by (with_reducible repeat (first | apply Kd.S_alloc | apply Kd.S_drewN | apply Kd.S_drew)); exact Kd.S_mono (ok' := fun k_ => some k_ ≠ (Value.slice none 0 0).ownBlock) HO_9.out (fun _ hk => (by simp [Value.ownBlock]))⟩, ⟨by first | exact Kd.R_nil _ _ _ _ _ | exact Kd.N_nil _ _ _ _ _ | exact Kd.V_nil _ _ _ _ _ | exact Kd.Q_nil _ _ _ _ _ | exact Kd.S_nil _ _ _ _ _⟩, ⟨pB BK301⟩, ⟨pB BK302⟩, ⟨pH HB⟩⟩
     case round =>
      clear H'
      try clear c1
      try clear c2
      try clear p2
      try clear c3
      try clear p3
      try clear q3
      try clear hx3
      try clear c6
      try clear c6b0
      try clear c7
      try clear c7b0
      try clear c9
      try clear hcz10_0
      try clear hcz10_1
      try clear hfz10_0
      try clear hfz10_1
      try clear hx303_0
      try clear p2
      try clear p303
      try clear q303
      obtain ⟨x8_2, x11_2, x13_2, rfl, rfl, HA, HK2, HO_9, HO_11, BK301, BK302, HB⟩ := hrel
      cases gk with
      | zero => exact absurd HA.out (by simp [rillmeterref12_Add.l1])
      | succ k2 =>
       have H := HA.out
       clear HA
       simp only [rillmeterref12_Add.l1] at H
       by_cases c13 : 0 ≤ x10_1
       ·
        rw [if_pos c13] at H
        have c13b0 : decide (0 ≤ x10_1) = true := decide_eq_true c13
        clear c13
        by_cases c14 : x10_1 < (l0_1.length : Int)
        ·
         rw [if_pos c14] at H
         have c14b0 : decide (x10_1 < (l0_1.length : Int)) = true := decide_eq_true c14
         clear c14
         by_cases c15 : x13_2 < ((rd_L1 l0_1 x10_1).length : Int)
         ·
          rw [if_pos c15] at H
          have c15b0 : decide (x13_2 < ((rd_L1 l0_1 x10_1).length : Int)) = true := decide_eq_true c15
          clear c15
          by_cases c16 : 0 ≤ x13_2
          ·
           rw [if_pos c16] at H
           have c16b0 : decide (0 ≤ x13_2) = true := decide_eq_true c16
           clear c16
           by_cases c17 : x13_2 = t304
           ·
            rw [if_pos c17] at H
            have c17b0 : (x13_2 == t304) = true := beq_iff_eq.mpr c17
            have c17b1 : (x13_2 != t304) = false := bne_eq_false_iff_eq.mpr c17
            clear c17
            replace H := Option.bind_eq_some_iff.mp H
            obtain ⟨t311, A180, H⟩ := H
            replace H : (if x8_2 = true then ((rillmeterref12_Fits.f (wrap64 ((rd (rd_L1 l0_1 x10_1) x13_2) + (wrap64 (a2 * t311))))).bind fun t312 => (if x11_2.length < 17592186044416 then (rillmeterref12_Add.l1 k2 a1 a2 t312 x9_1 x10_1 (x11_2 ++ [wrap64 ((rd (rd_L1 l0_1 x10_1) x13_2) + (wrap64 (a2 * t311)))]) t304 (wrap64 (x13_2 + 1)) a0_0 l0_1) else (none))) else (if x11_2.length < 17592186044416 then (rillmeterref12_Add.l1 k2 a1 a2 false x9_1 x10_1 (x11_2 ++ [wrap64 ((rd (rd_L1 l0_1 x10_1) x13_2) + (wrap64 (a2 * t311)))]) t304 (wrap64 (x13_2 + 1)) a0_0 l0_1) else (none))) = some (r1, r2, r3) := H
            have A18 := Aside0.mk A180
            clear A180
            by_cases c19 : x8_2 = true
            ·
             subst c19
             have H1 : ((rillmeterref12_Fits.f (wrap64 ((rd (rd_L1 l0_1 x10_1) x13_2) + (wrap64 (a2 * t311))))).bind fun t312 => (if x11_2.length < 17592186044416 then (rillmeterref12_Add.l1 k2 a1 a2 t312 x9_1 x10_1 (x11_2 ++ [wrap64 ((rd (rd_L1 l0_1 x10_1) x13_2) + (wrap64 (a2 * t311)))]) t304 (wrap64 (x13_2 + 1)) a0_0 l0_1) else (none))) = some (r1, r2, r3) := by rw [if_pos rfl] at H; exact H
             clear H
             have H := H1
             clear H1
             replace H := Option.bind_eq_some_iff.mp H
             obtain ⟨t312, A200, H⟩ := H
             replace H : (if x11_2.length < 17592186044416 then (rillmeterref12_Add.l1 k2 a1 a2 t312 x9_1 x10_1 (x11_2 ++ [wrap64 ((rd (rd_L1 l0_1 x10_1) x13_2) + (wrap64 (a2 * t311)))]) t304 (wrap64 (x13_2 + 1)) a0_0 l0_1) else (none)) = some (r1, r2, r3) := H
             have A20 := Aside0.mk A200
             clear A200
             by_cases c21 : x11_2.length < 17592186044416
             ·
              rw [if_pos c21] at H
              have LMc21 := Aside0.mk c21
              clear c21
              obtain ⟨y313, hy313⟩ : ∃ y_ : List Int, y_ = (x11_2 ++ [wrap64 ((rd (rd_L1 l0_1 x10_1) x13_2) + (wrap64 (a2 * t311)))]) := ⟨_, rfl⟩
              replace H : (rillmeterref12_Add.l1 k2 a1 a2 t312 x9_1 x10_1 y313 t304 (wrap64 (x13_2 + 1)) a0_0 l0_1) = some (r1, r2, r3) := by first | (rw [hy313]; with_reducible exact H) | (have H2_ := (Option.bind_some _ _).symm.trans H; rw [hy313]; with_reducible exact H2_) | (have H2_ := (Option.bind_some _ _).symm.trans H; with_reducible exact H2_) | with_reducible exact H | (rw [hy313]; exact H) | exact H
              have Ny313 := Aside0.mk hy313
              clear hy313
              have H' := Aside0.mk H
              clear H
              have hnb22 := NB301_302.out
              have hnc22 := NB302_301.out
              have hcz23_0 : wr.cell? ⟨gb301, 0, none⟩ = some (.int .u64 a0_0) := (blk_cell BK301.out 0).trans rfl
              have hcz23_1 : wr.cell? ⟨gb301, 1, none⟩ = some (.slice (some ad303) l0_1.length c0_1) := (blk_cell BK301.out 1).trans rfl
              have hfz23_0 := blk_frozen BK301.out 0
              have hfz23_1 := blk_frozen BK301.out 1
              have p305 : 0 ≤ (x10_1 : Int) := of_decide_eq_true (by first | (with_reducible assumption) | assumption)
              have q305 : x10_1 < (l0_1.length : Int) := of_decide_eq_true (by first | (with_reducible assumption) | assumption)
              obtain ⟨ad305, A305_0, c305_0, e305, hx305_0, hl305_0, hi305_0⟩ := at_L1 HR0_1.out x10_1 p305 q305
              obtain rfl : ad303 = ad305 := (by injection e305)
              replace hx305_0 := (HB.out.cell (World.block_lt_of_cell? w _ hx305_0)).trans hx305_0
              have HR305_0 := Aside0.mk hi305_0
              have HC305_0 := Aside0.mk hl305_0
              clear hi305_0 hl305_0
              replace p305 := eq_true p305
              replace q305 := eq_true q305
              have p309 : 0 ≤ (x10_1 : Int) := of_decide_eq_true (by first | (with_reducible assumption) | assumption)
              have q309 : x10_1 < (l0_1.length : Int) := of_decide_eq_true (by first | (with_reducible assumption) | assumption)
              obtain ⟨ad309, A309_0, c309_0, e309, hx309_0, hl309_0, hi309_0⟩ := at_L1 HR0_1.out x10_1 p309 q309
              obtain rfl : ad303 = ad309 := (by injection e309)
              replace hx309_0 := (HB.out.cell (World.block_lt_of_cell? w _ hx309_0)).trans hx309_0
              have HR309_0 := Aside0.mk hi309_0
              have HC309_0 := Aside0.mk hl309_0
              clear hi309_0 hl309_0
              replace p309 := eq_true p309
              replace q309 := eq_true q309
              have ea_ := Option.some.inj (hx305_0.symm.trans hx309_0)
              injection ea_ with ea_ en_ ec_
              subst ea_
              subst ec_
              clear en_
              have p310 : 0 ≤ (x13_2 : Int) := of_decide_eq_true (by first | (with_reducible assumption) | assumption)
              have q310 : x13_2 < ((rd_L1 l0_1 x10_1).length : Int) := of_decide_eq_true (by first | (with_reducible assumption) | assumption)
              obtain ⟨ad310, e310, hx310_0⟩ := Kd.at_int HR309_0.out x13_2 p310 q310
              cases e310
              replace hx310_0 := (HB.out.cell (World.block_lt_of_cell? w _ hx310_0)).trans hx310_0
              replace p310 := eq_true p310
              replace q310 := eq_true q310
              go_wp2_with (first | ((with_reducible refine gate_callee (f := 38) rfl ?_); refine goesM_ (some 60) Try.func38 #[.int .u64 a0_0, .string a1, .int .i64 x10_1] ?_; (with_reducible refine (rillmeterref12_Sign.calls k2 a0_0 a1 x10_1 t311 _ A18.out).mono ?_); rintro e w24 ⟨rfl, hb⟩; refine ⟨_, rfl, ?_⟩; replace HO_9 := Aside0.mk (Kd.S_below (pS HO_9) hb); replace HO_11 := Aside0.mk (Kd.R_below (pR HO_11) hb); replace BK301 := bB BK301 hb; replace BK302 := bB BK302 hb; replace HB := stB HB hb; (try clear hb); (try clear hb2); (try clear hk); (try clear hi)) | (go_at_call 21; (with_reducible refine (rillmeterref12_Fits.calls (wrap64 ((rd (rd_L1 l0_1 x10_1) x13_2) + (wrap64 (a2 * t311)))) t312 _ A20.out).mono ?_); rintro e w' ⟨rfl, ⟨nd, rfl⟩⟩) | ((with_reducible refine gate_builtin (b := .append) (xs := #[.tmp 68, .tmp 70]) rfl ?_); at_builtin; refine Kd.R_append (Kd.int .i64) (w0 := w) w.heap.size rfl (.tmp 68) (.tmp 70) 33 3 (.int .i64 0) 8 rfl Try.underlying33 info3 rfl (by decide) (by omega) u11 x11_2 (wrap64 ((rd (rd_L1 l0_1 x10_1) x13_2) + (wrap64 (a2 * t311)))) [.int .i64 (wrap64 ((rd (rd_L1 l0_1 x10_1) x13_2) + (wrap64 (a2 * t311))))] (fun _ => True) (fun _ => False) rfl rfl ?aP (fun _ hk => hk.elim) ?aF ?aO ?aB ?aS ?aL ?_; (case aP => exact rfl); (case aB => exact (pH HB)); (case aF => exact (fun _ _ => trivial)); (case aO => exact (pR HO_11)); (case aS => exact (below_size (pH HB))); (case aL => have := LMc21.out; omega); intro v314 w25 ho hb hg hat; rw [← Ny313.out] at ho; have HO315 := Aside0.mk (ho); replace HO_9 := Aside0.mk (Kd.S_after (ok := (fun _ => True)) (by (with_reducible repeat (first | apply Kd.S_alloc | apply Kd.S_drewN | apply Kd.S_drew)); exact Kd.S_mono HO_9.out (fun _ hk => ⟨trivial, hk⟩)) hg hat); replace BK301 := Aside0.mk (blk_grown (g := gb301) (o := .cells #[.int .u64 a0_0, .slice (some ad303) l0_1.length c0_1] 30 (0, 0)) (pB BK301) hg (Kd.R_ne HO_11.out BK301.out (by decide))); replace BK302 := Aside0.mk (blk_grown (g := gb302) (o := .cells #[.int .u64 0, .slice none 0 0] 30 (0, 0)) (pB BK302) hg (Kd.R_ne HO_11.out BK302.out (by decide))); replace HB := Aside0.mk (hb); clear HO_11; clear ho hb hg hat))
              go_roundg k2
              case measure => have := HK1.out; have := HK2.out; omega
              case rel => exact ⟨(t312), (y313), (wrap64 (x13_2 + 1)), (by first | rfl | (simp; done) | (simp [*]; done)), (by first | rfl | (simp; done) | (simp [*]; done)), H', ⟨by have := HK1.out; have := HK2.out; omega⟩, ⟨by (with_reducible repeat (first | apply Kd.S_alloc | apply Kd.S_drewN | apply Kd.S_drew)); exact Kd.S_mono HO_9.out (fun _ hk => hk.2)⟩, ⟨pR HO315⟩, ⟨pB BK301⟩, ⟨pB BK302⟩, ⟨pH HB⟩⟩
             ·
              rw [if_neg c21] at H
              exact absurd H (by simp)
            ·
             replace c19 := Bool.eq_false_iff.mpr c19
             subst c19
             have H1 : (if x11_2.length < 17592186044416 then (rillmeterref12_Add.l1 k2 a1 a2 false x9_1 x10_1 (x11_2 ++ [wrap64 ((rd (rd_L1 l0_1 x10_1) x13_2) + (wrap64 (a2 * t311)))]) t304 (wrap64 (x13_2 + 1)) a0_0 l0_1) else (none)) = some (r1, r2, r3) := by rw [if_neg (show ¬ (false = true) by decide)] at H; exact H
             clear H
             have H := H1
             clear H1
             by_cases c26 : x11_2.length < 17592186044416
             ·
              rw [if_pos c26] at H
              have LMc26 := Aside0.mk c26
              clear c26
              obtain ⟨y316, hy316⟩ : ∃ y_ : List Int, y_ = (x11_2 ++ [wrap64 ((rd (rd_L1 l0_1 x10_1) x13_2) + (wrap64 (a2 * t311)))]) := ⟨_, rfl⟩
              replace H : (rillmeterref12_Add.l1 k2 a1 a2 false x9_1 x10_1 y316 t304 (wrap64 (x13_2 + 1)) a0_0 l0_1) = some (r1, r2, r3) := by first | (rw [hy316]; with_reducible exact H) | (have H2_ := (Option.bind_some _ _).symm.trans H; rw [hy316]; with_reducible exact H2_) | (have H2_ := (Option.bind_some _ _).symm.trans H; with_reducible exact H2_) | with_reducible exact H | (rw [hy316]; exact H) | exact H
              have Ny316 := Aside0.mk hy316
              clear hy316
              have H' := Aside0.mk H
              clear H
              have hnb27 := NB301_302.out
              have hnc27 := NB302_301.out
              have hcz28_0 : wr.cell? ⟨gb301, 0, none⟩ = some (.int .u64 a0_0) := (blk_cell BK301.out 0).trans rfl
              have hcz28_1 : wr.cell? ⟨gb301, 1, none⟩ = some (.slice (some ad303) l0_1.length c0_1) := (blk_cell BK301.out 1).trans rfl
              have hfz28_0 := blk_frozen BK301.out 0
              have hfz28_1 := blk_frozen BK301.out 1
              have p305 : 0 ≤ (x10_1 : Int) := of_decide_eq_true (by first | (with_reducible assumption) | assumption)
              have q305 : x10_1 < (l0_1.length : Int) := of_decide_eq_true (by first | (with_reducible assumption) | assumption)
              obtain ⟨ad305, A305_0, c305_0, e305, hx305_0, hl305_0, hi305_0⟩ := at_L1 HR0_1.out x10_1 p305 q305
              obtain rfl : ad303 = ad305 := (by injection e305)
              replace hx305_0 := (HB.out.cell (World.block_lt_of_cell? w _ hx305_0)).trans hx305_0
              have HR305_0 := Aside0.mk hi305_0
              have HC305_0 := Aside0.mk hl305_0
              clear hi305_0 hl305_0
              replace p305 := eq_true p305
              replace q305 := eq_true q305
              have p309 : 0 ≤ (x10_1 : Int) := of_decide_eq_true (by first | (with_reducible assumption) | assumption)
              have q309 : x10_1 < (l0_1.length : Int) := of_decide_eq_true (by first | (with_reducible assumption) | assumption)
              obtain ⟨ad309, A309_0, c309_0, e309, hx309_0, hl309_0, hi309_0⟩ := at_L1 HR0_1.out x10_1 p309 q309
              obtain rfl : ad303 = ad309 := (by injection e309)
              replace hx309_0 := (HB.out.cell (World.block_lt_of_cell? w _ hx309_0)).trans hx309_0
              have HR309_0 := Aside0.mk hi309_0
              have HC309_0 := Aside0.mk hl309_0
              clear hi309_0 hl309_0
              replace p309 := eq_true p309
              replace q309 := eq_true q309
              have ea_ := Option.some.inj (hx305_0.symm.trans hx309_0)
              injection ea_ with ea_ en_ ec_
              subst ea_
              subst ec_
              clear en_
              have p310 : 0 ≤ (x13_2 : Int) := of_decide_eq_true (by first | (with_reducible assumption) | assumption)
              have q310 : x13_2 < ((rd_L1 l0_1 x10_1).length : Int) := of_decide_eq_true (by first | (with_reducible assumption) | assumption)
              obtain ⟨ad310, e310, hx310_0⟩ := Kd.at_int HR309_0.out x13_2 p310 q310
              cases e310
              replace hx310_0 := (HB.out.cell (World.block_lt_of_cell? w _ hx310_0)).trans hx310_0
              replace p310 := eq_true p310
              replace q310 := eq_true q310
              go_wp2_with (first | ((with_reducible refine gate_callee (f := 38) rfl ?_); refine goesM_ (some 60) Try.func38 #[.int .u64 a0_0, .string a1, .int .i64 x10_1] ?_; (with_reducible refine (rillmeterref12_Sign.calls k2 a0_0 a1 x10_1 t311 _ A18.out).mono ?_); rintro e w29 ⟨rfl, hb⟩; refine ⟨_, rfl, ?_⟩; replace HO_9 := Aside0.mk (Kd.S_below (pS HO_9) hb); replace HO_11 := Aside0.mk (Kd.R_below (pR HO_11) hb); replace BK301 := bB BK301 hb; replace BK302 := bB BK302 hb; replace HB := stB HB hb; (try clear hb); (try clear hb2); (try clear hk); (try clear hi)) | ((with_reducible refine gate_builtin (b := .append) (xs := #[.tmp 68, .tmp 70]) rfl ?_); at_builtin; refine Kd.R_append (Kd.int .i64) (w0 := w) w.heap.size rfl (.tmp 68) (.tmp 70) 33 3 (.int .i64 0) 8 rfl Try.underlying33 info3 rfl (by decide) (by omega) u11 x11_2 (wrap64 ((rd (rd_L1 l0_1 x10_1) x13_2) + (wrap64 (a2 * t311)))) [.int .i64 (wrap64 ((rd (rd_L1 l0_1 x10_1) x13_2) + (wrap64 (a2 * t311))))] (fun _ => True) (fun _ => False) rfl rfl ?aP (fun _ hk => hk.elim) ?aF ?aO ?aB ?aS ?aL ?_; (case aP => exact rfl); (case aB => exact (pH HB)); (case aF => exact (fun _ _ => trivial)); (case aO => exact (pR HO_11)); (case aS => exact (below_size (pH HB))); (case aL => have := LMc26.out; omega); intro v317 w30 ho hb hg hat; rw [← Ny316.out] at ho; have HO318 := Aside0.mk (ho); replace HO_9 := Aside0.mk (Kd.S_after (ok := (fun _ => True)) (by (with_reducible repeat (first | apply Kd.S_alloc | apply Kd.S_drewN | apply Kd.S_drew)); exact Kd.S_mono HO_9.out (fun _ hk => ⟨trivial, hk⟩)) hg hat); replace BK301 := Aside0.mk (blk_grown (g := gb301) (o := .cells #[.int .u64 a0_0, .slice (some ad303) l0_1.length c0_1] 30 (0, 0)) (pB BK301) hg (Kd.R_ne HO_11.out BK301.out (by decide))); replace BK302 := Aside0.mk (blk_grown (g := gb302) (o := .cells #[.int .u64 0, .slice none 0 0] 30 (0, 0)) (pB BK302) hg (Kd.R_ne HO_11.out BK302.out (by decide))); replace HB := Aside0.mk (hb); clear HO_11; clear ho hb hg hat))
              go_roundg k2
              case measure => have := HK1.out; have := HK2.out; omega
              case rel => exact ⟨(false), (y316), (wrap64 (x13_2 + 1)), (by first | rfl | (simp; done) | (simp [*]; done)), (by first | rfl | (simp; done) | (simp [*]; done)), H', ⟨by have := HK1.out; have := HK2.out; omega⟩, ⟨by (with_reducible repeat (first | apply Kd.S_alloc | apply Kd.S_drewN | apply Kd.S_drew)); exact Kd.S_mono HO_9.out (fun _ hk => hk.2)⟩, ⟨pR HO318⟩, ⟨pB BK301⟩, ⟨pB BK302⟩, ⟨pH HB⟩⟩
             ·
              rw [if_neg c26] at H
              exact absurd H (by simp)
           ·
            rw [if_neg c17] at H
            have c17b0 : (x13_2 == t304) = false := beq_eq_false_iff_ne.mpr c17
            have c17b1 : (x13_2 != t304) = true := bne_iff_ne.mpr c17
            by_cases c31 : x8_2 = true
            ·
             subst c31
             have H1 : ((rillmeterref12_Fits.f (rd (rd_L1 l0_1 x10_1) x13_2)).bind fun t319 => (if x11_2.length < 17592186044416 then (rillmeterref12_Add.l1 k2 a1 a2 t319 x9_1 x10_1 (x11_2 ++ [rd (rd_L1 l0_1 x10_1) x13_2]) t304 (wrap64 (x13_2 + 1)) a0_0 l0_1) else (none))) = some (r1, r2, r3) := by rw [if_pos rfl] at H; exact H
             clear H
             have H := H1
             clear H1
             replace H := Option.bind_eq_some_iff.mp H
             obtain ⟨t319, A320, H⟩ := H
             replace H : (if x11_2.length < 17592186044416 then (rillmeterref12_Add.l1 k2 a1 a2 t319 x9_1 x10_1 (x11_2 ++ [rd (rd_L1 l0_1 x10_1) x13_2]) t304 (wrap64 (x13_2 + 1)) a0_0 l0_1) else (none)) = some (r1, r2, r3) := H
             have A32 := Aside0.mk A320
             clear A320
             by_cases c33 : x11_2.length < 17592186044416
             ·
              rw [if_pos c33] at H
              have LMc33 := Aside0.mk c33
              clear c33
              obtain ⟨y320, hy320⟩ : ∃ y_ : List Int, y_ = (x11_2 ++ [rd (rd_L1 l0_1 x10_1) x13_2]) := ⟨_, rfl⟩
              replace H : (rillmeterref12_Add.l1 k2 a1 a2 t319 x9_1 x10_1 y320 t304 (wrap64 (x13_2 + 1)) a0_0 l0_1) = some (r1, r2, r3) := by first | (rw [hy320]; with_reducible exact H) | (have H2_ := (Option.bind_some _ _).symm.trans H; rw [hy320]; with_reducible exact H2_) | (have H2_ := (Option.bind_some _ _).symm.trans H; with_reducible exact H2_) | with_reducible exact H | (rw [hy320]; exact H) | exact H
              have Ny320 := Aside0.mk hy320
              clear hy320
              have H' := Aside0.mk H
              clear H
              have hnb34 := NB301_302.out
              have hnc34 := NB302_301.out
              have hcz35_0 : wr.cell? ⟨gb301, 0, none⟩ = some (.int .u64 a0_0) := (blk_cell BK301.out 0).trans rfl
              have hcz35_1 : wr.cell? ⟨gb301, 1, none⟩ = some (.slice (some ad303) l0_1.length c0_1) := (blk_cell BK301.out 1).trans rfl
              have hfz35_0 := blk_frozen BK301.out 0
              have hfz35_1 := blk_frozen BK301.out 1
              have p305 : 0 ≤ (x10_1 : Int) := of_decide_eq_true (by first | (with_reducible assumption) | assumption)
              have q305 : x10_1 < (l0_1.length : Int) := of_decide_eq_true (by first | (with_reducible assumption) | assumption)
              obtain ⟨ad305, A305_0, c305_0, e305, hx305_0, hl305_0, hi305_0⟩ := at_L1 HR0_1.out x10_1 p305 q305
              obtain rfl : ad303 = ad305 := (by injection e305)
              replace hx305_0 := (HB.out.cell (World.block_lt_of_cell? w _ hx305_0)).trans hx305_0
              have HR305_0 := Aside0.mk hi305_0
              have HC305_0 := Aside0.mk hl305_0
              clear hi305_0 hl305_0
              replace p305 := eq_true p305
              replace q305 := eq_true q305
              have p309 : 0 ≤ (x10_1 : Int) := of_decide_eq_true (by first | (with_reducible assumption) | assumption)
              have q309 : x10_1 < (l0_1.length : Int) := of_decide_eq_true (by first | (with_reducible assumption) | assumption)
              obtain ⟨ad309, A309_0, c309_0, e309, hx309_0, hl309_0, hi309_0⟩ := at_L1 HR0_1.out x10_1 p309 q309
              obtain rfl : ad303 = ad309 := (by injection e309)
              replace hx309_0 := (HB.out.cell (World.block_lt_of_cell? w _ hx309_0)).trans hx309_0
              have HR309_0 := Aside0.mk hi309_0
              have HC309_0 := Aside0.mk hl309_0
              clear hi309_0 hl309_0
              replace p309 := eq_true p309
              replace q309 := eq_true q309
              have ea_ := Option.some.inj (hx305_0.symm.trans hx309_0)
              injection ea_ with ea_ en_ ec_
              subst ea_
              subst ec_
              clear en_
              have p310 : 0 ≤ (x13_2 : Int) := of_decide_eq_true (by first | (with_reducible assumption) | assumption)
              have q310 : x13_2 < ((rd_L1 l0_1 x10_1).length : Int) := of_decide_eq_true (by first | (with_reducible assumption) | assumption)
              obtain ⟨ad310, e310, hx310_0⟩ := Kd.at_int HR309_0.out x13_2 p310 q310
              cases e310
              replace hx310_0 := (HB.out.cell (World.block_lt_of_cell? w _ hx310_0)).trans hx310_0
              replace p310 := eq_true p310
              replace q310 := eq_true q310
              go_wp2_with (first | (go_at_call 21; (with_reducible refine (rillmeterref12_Fits.calls (rd (rd_L1 l0_1 x10_1) x13_2) t319 _ A32.out).mono ?_); rintro e w' ⟨rfl, ⟨nd, rfl⟩⟩) | ((with_reducible refine gate_builtin (b := .append) (xs := #[.tmp 68, .tmp 70]) rfl ?_); at_builtin; refine Kd.R_append (Kd.int .i64) (w0 := w) w.heap.size rfl (.tmp 68) (.tmp 70) 33 3 (.int .i64 0) 8 rfl Try.underlying33 info3 rfl (by decide) (by omega) u11 x11_2 (rd (rd_L1 l0_1 x10_1) x13_2) [.int .i64 (rd (rd_L1 l0_1 x10_1) x13_2)] (fun _ => True) (fun _ => False) rfl rfl ?aP (fun _ hk => hk.elim) ?aF ?aO ?aB ?aS ?aL ?_; (case aP => exact rfl); (case aB => exact (pH HB)); (case aF => exact (fun _ _ => trivial)); (case aO => exact (pR HO_11)); (case aS => exact (below_size (pH HB))); (case aL => have := LMc33.out; omega); intro v321 w36 ho hb hg hat; rw [← Ny320.out] at ho; have HO322 := Aside0.mk (ho); replace HO_9 := Aside0.mk (Kd.S_after (ok := (fun _ => True)) (by (with_reducible repeat (first | apply Kd.S_alloc | apply Kd.S_drewN | apply Kd.S_drew)); exact Kd.S_mono HO_9.out (fun _ hk => ⟨trivial, hk⟩)) hg hat); replace BK301 := Aside0.mk (blk_grown (g := gb301) (o := .cells #[.int .u64 a0_0, .slice (some ad303) l0_1.length c0_1] 30 (0, 0)) (pB BK301) hg (Kd.R_ne HO_11.out BK301.out (by decide))); replace BK302 := Aside0.mk (blk_grown (g := gb302) (o := .cells #[.int .u64 0, .slice none 0 0] 30 (0, 0)) (pB BK302) hg (Kd.R_ne HO_11.out BK302.out (by decide))); replace HB := Aside0.mk (hb); clear HO_11; clear ho hb hg hat))
              go_roundg k2
              case measure => have := HK1.out; have := HK2.out; omega
              case rel => exact ⟨(t319), (y320), (wrap64 (x13_2 + 1)), (by first | rfl | (simp; done) | (simp [*]; done)), (by first | rfl | (simp; done) | (simp [*]; done)), H', ⟨by have := HK1.out; have := HK2.out; omega⟩, ⟨by (with_reducible repeat (first | apply Kd.S_alloc | apply Kd.S_drewN | apply Kd.S_drew)); exact Kd.S_mono HO_9.out (fun _ hk => hk.2)⟩, ⟨pR HO322⟩, ⟨pB BK301⟩, ⟨pB BK302⟩, ⟨pH HB⟩⟩
             ·
              rw [if_neg c33] at H
              exact absurd H (by simp)
            ·
             replace c31 := Bool.eq_false_iff.mpr c31
             subst c31
             have H1 : (if x11_2.length < 17592186044416 then (rillmeterref12_Add.l1 k2 a1 a2 false x9_1 x10_1 (x11_2 ++ [rd (rd_L1 l0_1 x10_1) x13_2]) t304 (wrap64 (x13_2 + 1)) a0_0 l0_1) else (none)) = some (r1, r2, r3) := by rw [if_neg (show ¬ (false = true) by decide)] at H; exact H
             clear H
             have H := H1
             clear H1
             by_cases c37 : x11_2.length < 17592186044416
             ·
              rw [if_pos c37] at H
              have LMc37 := Aside0.mk c37
              clear c37
              obtain ⟨y323, hy323⟩ : ∃ y_ : List Int, y_ = (x11_2 ++ [rd (rd_L1 l0_1 x10_1) x13_2]) := ⟨_, rfl⟩
              replace H : (rillmeterref12_Add.l1 k2 a1 a2 false x9_1 x10_1 y323 t304 (wrap64 (x13_2 + 1)) a0_0 l0_1) = some (r1, r2, r3) := by first | (rw [hy323]; with_reducible exact H) | (have H2_ := (Option.bind_some _ _).symm.trans H; rw [hy323]; with_reducible exact H2_) | (have H2_ := (Option.bind_some _ _).symm.trans H; with_reducible exact H2_) | with_reducible exact H | (rw [hy323]; exact H) | exact H
              have Ny323 := Aside0.mk hy323
              clear hy323
              have H' := Aside0.mk H
              clear H
              have hnb38 := NB301_302.out
              have hnc38 := NB302_301.out
              have hcz39_0 : wr.cell? ⟨gb301, 0, none⟩ = some (.int .u64 a0_0) := (blk_cell BK301.out 0).trans rfl
              have hcz39_1 : wr.cell? ⟨gb301, 1, none⟩ = some (.slice (some ad303) l0_1.length c0_1) := (blk_cell BK301.out 1).trans rfl
              have hfz39_0 := blk_frozen BK301.out 0
              have hfz39_1 := blk_frozen BK301.out 1
              have p305 : 0 ≤ (x10_1 : Int) := of_decide_eq_true (by first | (with_reducible assumption) | assumption)
              have q305 : x10_1 < (l0_1.length : Int) := of_decide_eq_true (by first | (with_reducible assumption) | assumption)
              obtain ⟨ad305, A305_0, c305_0, e305, hx305_0, hl305_0, hi305_0⟩ := at_L1 HR0_1.out x10_1 p305 q305
              obtain rfl : ad303 = ad305 := (by injection e305)
              replace hx305_0 := (HB.out.cell (World.block_lt_of_cell? w _ hx305_0)).trans hx305_0
              have HR305_0 := Aside0.mk hi305_0
              have HC305_0 := Aside0.mk hl305_0
              clear hi305_0 hl305_0
              replace p305 := eq_true p305
              replace q305 := eq_true q305
              have p309 : 0 ≤ (x10_1 : Int) := of_decide_eq_true (by first | (with_reducible assumption) | assumption)
              have q309 : x10_1 < (l0_1.length : Int) := of_decide_eq_true (by first | (with_reducible assumption) | assumption)
              obtain ⟨ad309, A309_0, c309_0, e309, hx309_0, hl309_0, hi309_0⟩ := at_L1 HR0_1.out x10_1 p309 q309
              obtain rfl : ad303 = ad309 := (by injection e309)
              replace hx309_0 := (HB.out.cell (World.block_lt_of_cell? w _ hx309_0)).trans hx309_0
              have HR309_0 := Aside0.mk hi309_0
              have HC309_0 := Aside0.mk hl309_0
              clear hi309_0 hl309_0
              replace p309 := eq_true p309
              replace q309 := eq_true q309
              have ea_ := Option.some.inj (hx305_0.symm.trans hx309_0)
              injection ea_ with ea_ en_ ec_
              subst ea_
              subst ec_
              clear en_
              have p310 : 0 ≤ (x13_2 : Int) := of_decide_eq_true (by first | (with_reducible assumption) | assumption)
              have q310 : x13_2 < ((rd_L1 l0_1 x10_1).length : Int) := of_decide_eq_true (by first | (with_reducible assumption) | assumption)
              obtain ⟨ad310, e310, hx310_0⟩ := Kd.at_int HR309_0.out x13_2 p310 q310
              cases e310
              replace hx310_0 := (HB.out.cell (World.block_lt_of_cell? w _ hx310_0)).trans hx310_0
              replace p310 := eq_true p310
              replace q310 := eq_true q310
              go_wp2_with (first | ((with_reducible refine gate_builtin (b := .append) (xs := #[.tmp 68, .tmp 70]) rfl ?_); at_builtin; refine Kd.R_append (Kd.int .i64) (w0 := w) w.heap.size rfl (.tmp 68) (.tmp 70) 33 3 (.int .i64 0) 8 rfl Try.underlying33 info3 rfl (by decide) (by omega) u11 x11_2 (rd (rd_L1 l0_1 x10_1) x13_2) [.int .i64 (rd (rd_L1 l0_1 x10_1) x13_2)] (fun _ => True) (fun _ => False) rfl rfl ?aP (fun _ hk => hk.elim) ?aF ?aO ?aB ?aS ?aL ?_; (case aP => exact rfl); (case aB => exact (pH HB)); (case aF => exact (fun _ _ => trivial)); (case aO => exact (pR HO_11)); (case aS => exact (below_size (pH HB))); (case aL => have := LMc37.out; omega); intro v324 w40 ho hb hg hat; rw [← Ny323.out] at ho; have HO325 := Aside0.mk (ho); replace HO_9 := Aside0.mk (Kd.S_after (ok := (fun _ => True)) (by (with_reducible repeat (first | apply Kd.S_alloc | apply Kd.S_drewN | apply Kd.S_drew)); exact Kd.S_mono HO_9.out (fun _ hk => ⟨trivial, hk⟩)) hg hat); replace BK301 := Aside0.mk (blk_grown (g := gb301) (o := .cells #[.int .u64 a0_0, .slice (some ad303) l0_1.length c0_1] 30 (0, 0)) (pB BK301) hg (Kd.R_ne HO_11.out BK301.out (by decide))); replace BK302 := Aside0.mk (blk_grown (g := gb302) (o := .cells #[.int .u64 0, .slice none 0 0] 30 (0, 0)) (pB BK302) hg (Kd.R_ne HO_11.out BK302.out (by decide))); replace HB := Aside0.mk (hb); clear HO_11; clear ho hb hg hat))
              go_roundg k2
              case measure => have := HK1.out; have := HK2.out; omega
              case rel => exact ⟨(false), (y323), (wrap64 (x13_2 + 1)), (by first | rfl | (simp; done) | (simp [*]; done)), (by first | rfl | (simp; done) | (simp [*]; done)), H', ⟨by have := HK1.out; have := HK2.out; omega⟩, ⟨by (with_reducible repeat (first | apply Kd.S_alloc | apply Kd.S_drewN | apply Kd.S_drew)); exact Kd.S_mono HO_9.out (fun _ hk => hk.2)⟩, ⟨pR HO325⟩, ⟨pB BK301⟩, ⟨pB BK302⟩, ⟨pH HB⟩⟩
             ·
              rw [if_neg c37] at H
              exact absurd H (by simp)
          ·
           rw [if_neg c16] at H
           exact absurd H (by simp)
         ·
          rw [if_neg c15] at H
          have c15b0 : decide (x13_2 < ((rd_L1 l0_1 x10_1).length : Int)) = false := decide_eq_false c15
          clear c15
          by_cases c41 : x9_1.length < 5864062014805
          ·
           rw [if_pos c41] at H
           have LMc41 := Aside0.mk c41
           clear c41
           obtain ⟨y306, hy306⟩ : ∃ y_ : List (List Int), y_ = (x9_1 ++ [x11_2]) := ⟨_, rfl⟩
           replace H : (rillmeterref12_Add.l0 k2 a1 a2 x8_2 y306 (wrap64 (x10_1 + 1)) a0_0 l0_1) = some (r1, r2, r3) := by first | (rw [hy306]; with_reducible exact H) | (have H2_ := (Option.bind_some _ _).symm.trans H; rw [hy306]; with_reducible exact H2_) | (have H2_ := (Option.bind_some _ _).symm.trans H; with_reducible exact H2_) | with_reducible exact H | (rw [hy306]; exact H) | exact H
           have Ny306 := Aside0.mk hy306
           clear hy306
           have H' := Aside0.mk H
           clear H
           have hnb42 := NB301_302.out
           have hnc42 := NB302_301.out
           have hcz43_0 : wr.cell? ⟨gb301, 0, none⟩ = some (.int .u64 a0_0) := (blk_cell BK301.out 0).trans rfl
           have hcz43_1 : wr.cell? ⟨gb301, 1, none⟩ = some (.slice (some ad303) l0_1.length c0_1) := (blk_cell BK301.out 1).trans rfl
           have hfz43_0 := blk_frozen BK301.out 0
           have hfz43_1 := blk_frozen BK301.out 1
           have p305 : 0 ≤ (x10_1 : Int) := of_decide_eq_true (by first | (with_reducible assumption) | assumption)
           have q305 : x10_1 < (l0_1.length : Int) := of_decide_eq_true (by first | (with_reducible assumption) | assumption)
           obtain ⟨ad305, A305_0, c305_0, e305, hx305_0, hl305_0, hi305_0⟩ := at_L1 HR0_1.out x10_1 p305 q305
           obtain rfl : ad303 = ad305 := (by injection e305)
           replace hx305_0 := (HB.out.cell (World.block_lt_of_cell? w _ hx305_0)).trans hx305_0
           have HR305_0 := Aside0.mk hi305_0
           have HC305_0 := Aside0.mk hl305_0
           clear hi305_0 hl305_0
           replace p305 := eq_true p305
           replace q305 := eq_true q305
           obtain ⟨Ao45, co45, eo45⟩ := Kd.R_slice HO_11.out
           subst eo45
           go_wp2_with (first | ((with_reducible refine gate_builtin (b := .append) (xs := #[.tmp 72, .tmp 74]) rfl ?_); at_builtin; refine Kd.S_append (Kd.slice 3 (Kd.int .i64)) (w0 := w) w.heap.size rfl (.tmp 72) (.tmp 74) 23 33 (.slice none 0 0) 24 rfl Try.underlying23 info33 rfl (by decide) (by omega) u9 x9_1 x11_2 [.slice Ao45 x11_2.length co45] (fun _ => True) (fun k_ => some k_ = (.slice Ao45 x11_2.length co45 : Value).ownBlock) rfl rfl ?aP (fun k_ hk_ => ((Kd.R_mono (ok' := fun k_ => ((fun _ => True)) k_ ∧ some k_ ≠ (u9 : Value).ownBlock) (Kd.R_apart' (HO_11.out) (Kd.S_typed HO_9.out) (by decide)) (fun k_ hk => ⟨trivial, hk.2⟩))).1 k_ hk_.symm) ?aF ?aO ?aB ?aS ?aL ?_; (case aP => exact Kd.M_row (Kd.R_mono (Kd.R_tight rfl (Kd.R_mono (ok' := fun k_ => ((fun _ => True)) k_ ∧ some k_ ≠ (u9 : Value).ownBlock) (Kd.R_apart' (HO_11.out) (Kd.S_typed HO_9.out) (by decide)) (fun k_ hk => ⟨trivial, hk.2⟩))) (fun _ h_ => h_))); (case aB => exact (pH HB)); (case aF => exact (fun _ _ => trivial)); (case aO => exact (by (with_reducible repeat (first | apply Kd.S_alloc | apply Kd.S_drewN | apply Kd.S_drew)); exact Kd.S_mono HO_9.out (fun k_ hk => ⟨trivial, fun e_ => hk e_⟩))); (case aS => exact (below_size (pH HB))); (case aL => have := LMc41.out; omega); intro v307 w44 ho hb hg hat; rw [← Ny306.out] at ho; have HO308 := Aside0.mk (ho); replace BK301 := Aside0.mk (blk_grown (g := gb301) (o := .cells #[.int .u64 a0_0, .slice (some ad303) l0_1.length c0_1] 30 (0, 0)) (pB BK301) hg (Kd.S_ne HO_9.out BK301.out (by decide))); replace BK302 := Aside0.mk (blk_grown (g := gb302) (o := .cells #[.int .u64 0, .slice none 0 0] 30 (0, 0)) (pB BK302) hg (Kd.S_ne HO_9.out BK302.out (by decide))); replace HB := Aside0.mk (hb); clear HO_9 HO_11; clear ho hb hg hat))
           go_roundg k2
           case measure => have := HK1.out; have := HK2.out; omega
           case rel => exact ⟨(x8_2), (y306), (wrap64 (x10_1 + 1)), (by first | rfl | (simp; done) | (simp [*]; done)), (by first | rfl | (simp; done) | (simp [*]; done)), H', ⟨by have := HK1.out; have := HK2.out; omega⟩, ⟨pS HO308⟩, ⟨pB BK301⟩, ⟨pB BK302⟩, ⟨pH HB⟩⟩
          ·
           rw [if_neg c41] at H
           exact absurd H (by simp)
        ·
         rw [if_neg c14] at H
         exact absurd H (by simp)
       ·
        rw [if_neg c13] at H
        exact absurd H (by simp)
    ·
     rw [if_neg c7] at H
     exact absurd H (by simp)
   ·
    rw [if_neg c6] at H
    have c6b0 : decide (x10_1 < (l0_1.length : Int)) = false := decide_eq_false c6
    clear c6
    simp only [Option.some.injEq, Prod.mk.injEq] at H
    obtain ⟨rfl, rfl, rfl⟩ := H
    have hnb46 := NB301_302.out
    have hnc46 := NB302_301.out
    have hcz47_0 : wr.cell? ⟨gb301, 0, none⟩ = some (.int .u64 a0_0) := (blk_cell BK301.out 0).trans rfl
    have hcz47_1 : wr.cell? ⟨gb301, 1, none⟩ = some (.slice A0_1 l0_1.length c0_1) := (blk_cell BK301.out 1).trans rfl
    have hfz47_0 := blk_frozen BK301.out 0
    have hfz47_1 := blk_frozen BK301.out 1
    obtain ⟨Ao48, co48, eo48⟩ := Kd.S_slice HO_9.out
    subst eo48
    have hcz49_0 : wr.cell? ⟨gb302, 0, none⟩ = some (.int .u64 0) := (blk_cell BK302.out 0).trans rfl
    have hcz49_1 : wr.cell? ⟨gb302, 1, none⟩ = some (.slice none 0 0) := (blk_cell BK302.out 1).trans rfl
    have hfz49_0 := blk_frozen BK302.out 0
    have hfz49_1 := blk_frozen BK302.out 1
    go_wp2
    refine bodyPost_ret (results_ct rfl _ _ gb302 30 #[.int .u64 a0_0, .slice Ao48 x9_1.length co48] (0, 0) _ rfl (by (with_reducible repeat (first | refine blk_drewN ?_ _ | refine blk_drew ?_ | refine blk_alloc ?_ _)); refine blk_put (cs := #[.int .u64 a0_0, .slice none 0 0]) ?_ 1 _ rfl; (with_reducible repeat (first | refine blk_drewN ?_ _ | refine blk_drew ?_ | refine blk_alloc ?_ _)); refine blk_put (cs := #[.int .u64 0, .slice none 0 0]) ?_ 0 _ rfl; (with_reducible repeat (first | refine blk_drewN ?_ _ | refine blk_drew ?_ | refine blk_alloc ?_ _)); refine blk_far ?_ NB302_301.out _; (with_reducible repeat (first | refine blk_drewN ?_ _ | refine blk_drew ?_ | refine blk_alloc ?_ _)); exact BK302.out) Try.underlying30 rfl (by kernel_rfl)) rfl ?_
    exact ⟨_, by first | rfl | (simp [errW_none, errW_some] <;> rfl) | (simp [*, errW_none, errW_some] <;> rfl), by (with_reducible repeat (first | apply Kd.S_alloc | apply Kd.S_drewN | apply Kd.S_drew)); exact Kd.S_mono (ok' := fun k_ => True) (Kd.S_far (p := ⟨gb302, 1, none⟩) (Kd.S_far (p := ⟨gb302, 0, none⟩) (Kd.S_far (p := ⟨gb301, 1, none⟩) (Kd.S_types (Kd.S_types HO_9.out BK301.out (by decide)) BK302.out (by decide)) (fun _ hk => hk.1.2) (.slice Ao48 x9_1.length co48)) (fun _ hk => hk.2) (.int .u64 a0_0)) (fun _ hk => hk.2) (.slice Ao48 x9_1.length co48)) (fun _ hk => trivial), by repeat (first | (with_reducible first | exact HB.out | apply below_alloc | apply pw_below_drewN | apply below_drew1 | refine below_set ?_ GE301.out | refine below_set ?_ GE302.out) | exact HB.out)⟩

end Go.Proofs.Yteaeigpeaneicaa.G
end

section
/- Layer 12: the document's own functions on right sketches come to the program's. -/
namespace Go.Proofs.Yteaeigpeaneicaa.G
open Go Go.RowKit Go.Proofs.YteaeigpeaneicaaW.PrintWords Go.Proofs.YteaeigpeaneicaaPlain
theorem ref12_Fits_f (n : Int) : rillmeterref12_Fits.f n = some (signed_Right.fits n) := by
  unfold rillmeterref12_Fits.f signed_Right.fits
  by_cases c : n ≥ -1099511627776
  · rw [if_pos c, decide_eq_true (show -1099511627776 ≤ n from c), Bool.true_and]
  · rw [if_neg c, decide_eq_false (show ¬ -1099511627776 ≤ n from c), Bool.false_and]
theorem ref12_Cell_ev (seed : Int) (key : ByteArray) (i n : Int) (h0 : 0 ≤ seed) (hs : key.size ≤ 1000000) (hi0 : 0 ≤ i) (hi1 : i ≤ 1000000) (hn : n < 9223372036854775808) : Ev (fun k => rillmeterref12_Cell.f k seed key i n) (scell seed key i n) := by
  have hr := hrow_range seed (2 * i)
  unfold rillmeterref12_Cell.f scell
  rw [w64_id (x := 2 * i) (by omega) (by omega)]
  exact Ev.bind (f := fun k t280 => ((rillmeterref02_Cell.f k t280 key n).bind fun t281 => (some t281))) (ref02_Row_ev seed (2 * i) h0 (by omega)) (Ev.bind (f := fun _ t => some t) (ref02_Cell_ev _ key n hr.1 hs hn) (Ev.now _))
theorem ref12_Sign_ev (seed : Int) (key : ByteArray) (i : Int) (h0 : 0 ≤ seed) (hs : key.size ≤ 1000000) (hi0 : 0 ≤ i) (hi1 : i ≤ 1000000) : Ev (fun k => rillmeterref12_Sign.f k seed key i) (ssign seed key i) := by
  have hr := hrow_range seed (2 * i + 1)
  unfold rillmeterref12_Sign.f ssign
  rw [w64_id (x := 2 * i) (by omega) (by omega), w64_id (x := 2 * i + 1) (by omega) (by omega)]
  exact Ev.bind (f := fun k t => ((rillmeterref02_Sign.f k t key).bind fun t284 => (some t284))) (ref02_Row_ev seed (2 * i + 1) h0 (by omega)) (Ev.bind (f := fun _ t => some t) (ref02_Sign_ev _ key hr.1 hs) (Ev.now _))
/-! Right -/
def RowOk (h : Nat) (r : List Int) : Prop := (1 ≤ r.length ∧ r.length ≤ 256) ∧ r.length = h ∧ ∀ v ∈ r, -1099511627776 ≤ v ∧ v ≤ 1099511627776
theorem okRows_iff (rows : List (List Int)) : OkRows rows ↔ rows.length ≤ 7 ∧ rows.length % 2 = 1 ∧ ∀ r ∈ rows, RowOk (rows.headD []).length r :=
  ⟨fun h => ⟨h.num, h.odd, fun r hr => ⟨h.len r hr, h.same r hr, h.val r hr⟩⟩, fun h => ⟨h.1, h.2.1, fun r hr => (h.2.2 r hr).1, fun r hr => (h.2.2 r hr).2.1, fun r hr => (h.2.2 r hr).2.2⟩⟩
theorem ref12_Right_l1 (seed : Int) (rows : List (List Int)) (i : Nat) (hi : i < rows.length) (hin : rows.length ≤ 7) (hl : rows[i].length ≤ 256) (r : Bool) (hnext : (∀ v ∈ rows[i], -1099511627776 ≤ v ∧ v ≤ 1099511627776) → Ev (fun k => rillmeterref12_Right.l0 k (rows.length : Int) ((i + 1 : Nat) : Int) seed rows) r)
    (hbad : (¬ ∀ v ∈ rows[i], -1099511627776 ≤ v ∧ v ≤ 1099511627776) → r = false) (d : Nat) : ∀ j : Nat, j + d = rows[i].length → (∀ q, q < j → ∀ (h : q < rows[i].length), -1099511627776 ≤ rows[i][q] ∧ rows[i][q] ≤ 1099511627776) →
    Ev (fun k => rillmeterref12_Right.l1 k (rows.length : Int) (i : Int) (rows[i].length : Int) (j : Int) seed rows) r := by
  induction d with
  | zero =>
    intro j hj hp
    have ha : ∀ v ∈ rows[i], -1099511627776 ≤ v ∧ v ≤ 1099511627776 := by
      intro v hv
      obtain ⟨q, hq, rfl⟩ := List.getElem_of_mem hv
      exact hp q (by omega) hq
    refine Ev.step (fun k => ?_) (hnext ha)
    simp only [rillmeterref12_Right.l1]
    rw [if_neg (by omega), w64_id (by omega) (by omega)]
    rfl
  | succ d ih =>
    intro j hj hp
    have hjl : j < rows[i].length := by omega
    by_cases c : -1099511627776 ≤ rows[i][j] ∧ rows[i][j] ≤ 1099511627776
    · refine Ev.step (fun k => ?_) (ih (j + 1) (by omega) (fun q hq h => ?_))
      · simp only [rillmeterref12_Right.l1]
        rw [rdL1_get rows i hi, if_pos (by omega), if_pos (by omega), if_pos (by omega), if_pos (by omega), if_pos (by omega), ref12_Fits_f, rd_get _ j hjl, (fits_iff _).2 c, Option.bind_some, if_pos rfl, w64_id (by omega) (by omega)]
        rfl
      · by_cases e : q = j
        · subst e; exact c
        · exact hp q (by omega) h
    · have hr : r = false := hbad (fun h => c (h _ (List.getElem_mem hjl)))
      subst hr
      refine Ev.step (f := fun _ => some false) (fun k => ?_) (Ev.now _)
      have hf : signed_Right.fits rows[i][j] = false := by
        cases e : signed_Right.fits rows[i][j] with
        | false => rfl
        | true => exact absurd ((fits_iff _).1 e) c
      simp only [rillmeterref12_Right.l1]
      rw [rdL1_get rows i hi, if_pos (by omega), if_pos (by omega), if_pos (by omega), if_pos (by omega), if_pos (by omega), ref12_Fits_f, rd_get _ j hjl, hf, Option.bind_some, if_neg (by simp)]
theorem head_get (rows : List (List Int)) (h : 0 < rows.length) : rows.headD [] = rows[0] := by cases rows with | nil => simp at h | cons a t => rfl
theorem ref12_Right_l0 (seed : Int) (rows : List (List Int)) (hn : rows.length ≤ 7) (ho : rows.length % 2 = 1) (hr : ∀ x ∈ rows, x.length ≤ 140737488351232) (d : Nat) : ∀ i : Nat, i + d = rows.length → (∀ q, q < i → ∀ (h : q < rows.length), RowOk (rows.headD []).length rows[q]) →
    Ev (fun k => rillmeterref12_Right.l0 k (rows.length : Int) (i : Int) seed rows) (signed_Right.ok rows) := by
  induction d with
  | zero =>
    intro i hi hp
    have : signed_Right.ok rows = true := (ok_iff rows).2 ((okRows_iff rows).2 ⟨hn, ho, fun r hr => by
      obtain ⟨q, hq, rfl⟩ := List.getElem_of_mem hr
      exact hp q (by omega) hq⟩)
    rw [this]
    refine Ev.step (f := fun _ => some true) (fun k => ?_) (Ev.now _)
    simp only [rillmeterref12_Right.l0]
    rw [if_neg (by omega)]
  | succ d ih =>
    intro i hi hp
    have hil : i < rows.length := by omega
    have h0 : 0 < rows.length := by omega
    have hbad : ¬ RowOk (rows.headD []).length rows[i] → signed_Right.ok rows = false := by
      intro h
      cases e : signed_Right.ok rows with
      | false => rfl
      | true => exact absurd (((okRows_iff rows).1 ((ok_iff rows).1 e)).2.2 _ (List.getElem_mem hil)) h
    have hj2 : ∀ b : Bool, (b = true → ¬ RowOk (rows.headD []).length rows[i]) → (b = false → (1 ≤ rows[i].length ∧ rows[i].length ≤ 256) ∧ rows[i].length = (rows.headD []).length) →
        Ev (fun k => rillmeterref12_Right.j2 k (rows.length : Int) (i : Int) (rows[i].length : Int) b seed rows) (signed_Right.ok rows) := by
      intro b hb1 hb2
      cases b with
      | true =>
        rw [hbad (hb1 rfl)]
        refine Ev.step (f := fun _ => some false) (fun k => ?_) (Ev.now _)
        simp only [rillmeterref12_Right.j2]
        rw [if_pos trivial]
      | false =>
        have hq := hb2 rfl
        refine Ev.step (fun k => ?_) (ref12_Right_l1 seed rows i hil hn hq.1.2 _ (fun hv => ih (i + 1) (by omega) (fun q hq' h => ?_)) (fun hv => hbad (fun hx => hv hx.2.2)) rows[i].length 0 (by omega) (fun q hq' => absurd hq' (Nat.not_lt_zero _)))
        · simp only [rillmeterref12_Right.j2]
          rw [if_neg (by simp)]
          rfl
        · by_cases e : q = i
          · subst e; exact ⟨hq.1, hq.2, hv⟩
          · exact hp q (by omega) h
    by_cases c1 : rows[i].length = 0
    · refine Ev.step (fun k => ?_) (hj2 true (fun _ h => by have := h.1.1; omega) (fun h => by cases h))
      simp only [rillmeterref12_Right.l0]
      rw [rdL1_get rows i hil, if_pos (by omega), if_pos (by omega), if_pos (by omega), if_pos (by omega)]
    · by_cases c2 : (rows[i].length : Int) > 256
      · refine Ev.step (fun k => ?_) (hj2 true (fun _ h => by have := h.1.2; omega) (fun h => by cases h))
        simp only [rillmeterref12_Right.l0]
        rw [rdL1_get rows i hil, if_pos (by omega), if_pos (by omega), if_pos (by omega), if_neg (by omega), if_pos c2]
      · refine Ev.step (fun k => ?_) (hj2 ((rows[i].length : Int) != ((rows.headD []).length : Int)) (fun hb h => ?_) (fun hb => ?_))
        · simp only [rillmeterref12_Right.l0]
          have e0 : rd_L1 rows 0 = rows.headD [] := by rw [head_get rows h0]; exact rdL1_get rows 0 h0
          rw [rdL1_get rows i hil, e0, if_pos (by omega), if_pos (by omega), if_pos (by omega), if_neg (by omega), if_neg c2, if_pos (by omega)]
        · have := h.2.1; rw [this] at hb; simp at hb
        · have e : (rows[i].length : Int) = ((rows.headD []).length : Int) := by simpa using hb
          exact ⟨⟨by omega, by omega⟩, by omega⟩
theorem ref12_Right_ev (seed : Int) (rows : List (List Int)) (hr : ∀ x ∈ rows, x.length ≤ 140737488351232) : Ev (fun k => rillmeterref12_Right.f k seed rows) (signed_Right.ok rows) := by
  have hbad : ¬ (rows.length ≤ 7 ∧ rows.length % 2 = 1) → signed_Right.ok rows = false := by
    intro h
    cases e : signed_Right.ok rows with
    | false => rfl
    | true => have := (ok_iff rows).1 e; exact absurd ⟨this.num, this.odd⟩ h
  have hgood : rows.length ≤ 7 ∧ rows.length % 2 = 1 → Ev (fun k => rillmeterref12_Right.j0 k (rows.length : Int) false seed rows) (signed_Right.ok rows) := by
    intro h
    refine Ev.step (fun k => ?_) (ref12_Right_l0 seed rows h.1 h.2 hr rows.length 0 (by omega) (fun q hq => absurd hq (Nat.not_lt_zero _)))
    simp only [rillmeterref12_Right.j0]
    rw [if_neg (by simp)]
    rfl
  by_cases c1 : rows.length = 1
  · refine Ev.congr (fun k => ?_) (hgood (by omega))
    unfold rillmeterref12_Right.f; rw [if_pos (by omega)]
  by_cases c3 : rows.length = 3
  · refine Ev.congr (fun k => ?_) (hgood (by omega))
    unfold rillmeterref12_Right.f; rw [if_neg (by omega), if_pos (by omega)]
  by_cases c5 : rows.length = 5
  · refine Ev.congr (fun k => ?_) (hgood (by omega))
    unfold rillmeterref12_Right.f; rw [if_neg (by omega), if_neg (by omega), if_pos (by omega)]
  by_cases c7 : rows.length = 7
  · refine Ev.congr (fun k => ?_) (hgood (by omega))
    unfold rillmeterref12_Right.f; rw [if_neg (by omega), if_neg (by omega), if_neg (by omega), c7]; rfl
  · rw [hbad (by omega)]
    refine Ev.congr (f := fun k => rillmeterref12_Right.j0 k (rows.length : Int) true seed rows) (fun k => ?_) (Ev.step (f := fun _ => some false) (fun k => ?_) (Ev.now _))
    · unfold rillmeterref12_Right.f
      rw [if_neg (by omega), if_neg (by omega), if_neg (by omega), show ((rows.length : Int) != 7) = true from by simp; omega]
    · simp only [rillmeterref12_Right.j0]
      rw [if_pos trivial]
/-! Add -/
theorem upd_take {rows : List (List Int)} (h : OkRows rows) (seed : Int) (key : ByteArray) (n : Int) (hn : -1099511627776 ≤ n ∧ n ≤ 1099511627776) (i : Int) (r : List Int) (hr : r ∈ rows) (j : Nat) (hj : j < r.length) :
    (signed_Add.upd seed key n i r)[j]? = some (if (j : Int) = scell seed key i r.length then r[j] + ssign seed key i * n else r[j]) := by
  have hc := scell_in seed key i r.length (h.len r hr).1
  rw [upd_at h seed key n hn i r hr, List.getElem?_set]
  by_cases e : (j : Int) = scell seed key i r.length
  · rw [if_pos (by omega), if_pos (by omega), if_pos e]
    congr 2
    rw [← e, rd_get r j hj]
  · rw [if_neg (by omega), if_neg e, List.getElem?_eq_getElem hj]
theorem ref12_Add_l1 {rows : List (List Int)} (h : OkRows rows) (seed : Int) (key : ByteArray) (n : Int) (h0 : 0 ≤ seed) (hs : key.size ≤ 1000000) (hn : -1099511627776 ≤ n ∧ n ≤ 1099511627776) (i : Nat) (hi : i < rows.length) (acc : List (List Int)) (hacc : acc.length ≤ 7) (ok : Bool) (r : Int × (List (List Int)) × Bool)
    (hnext : Ev (fun k => rillmeterref12_Add.l0 k key n (ok && signed_Right.fits (signed_Add.new seed key n (i : Int) rows[i])) (acc ++ [signed_Add.upd seed key n (i : Int) rows[i]]) ((i + 1 : Nat) : Int) seed rows) r) (d : Nat) : ∀ j : Nat, j + d = rows[i].length →
    Ev (fun k => rillmeterref12_Add.l1 k key n (ok && (decide ((j : Int) ≤ scell seed key (i : Int) rows[i].length) || signed_Right.fits (signed_Add.new seed key n (i : Int) rows[i]))) acc (i : Int) ((signed_Add.upd seed key n (i : Int) rows[i]).take j) (scell seed key (i : Int) rows[i].length) (j : Int) seed rows) r := by
  have hmem := List.getElem_mem hi
  have hlen := h.len _ hmem
  have hnum := h.num
  have hc := scell_in seed key (i : Int) rows[i].length hlen.1
  have hnew := new_eq h seed key n hn (i : Int) _ hmem
  have hup := upd_length seed key n (i : Int) rows[i]
  induction d with
  | zero =>
    intro j hj
    rw [List.take_of_length_le (by omega), decide_eq_false (by omega), Bool.false_or]
    refine Ev.step (fun k => ?_) hnext
    simp only [rillmeterref12_Add.l1]
    rw [rdL1_get rows i hi, if_pos (by omega), if_pos (by omega), if_neg (by omega), if_pos (by omega), w64_id (by omega) (by omega)]
    rfl
  | succ d ih =>
    intro j hj
    have hjl : j < rows[i].length := by omega
    have hnx := ih (j + 1) (by omega)
    have hv := h.val _ hmem _ (List.getElem_mem hjl)
    have hsm := ssign_mul seed key (i : Int) n
    have htl : (List.take j (signed_Add.upd seed key n (i : Int) rows[i])).length < 17592186044416 := by rw [List.length_take]; omega
    have hg := upd_take h seed key n hn (i : Int) _ hmem j hjl
    have htk : List.take (j + 1) (signed_Add.upd seed key n (i : Int) rows[i]) = List.take j (signed_Add.upd seed key n (i : Int) rows[i]) ++ [if (j : Int) = scell seed key (i : Int) rows[i].length then rows[i][j] + ssign seed key (i : Int) * n else rows[i][j]] := by
      rw [List.take_add_one, hg]; rfl
    rw [htk] at hnx
    by_cases e : (j : Int) = scell seed key (i : Int) rows[i].length
    · rw [if_pos e, decide_eq_false (by omega), Bool.false_or] at hnx
      rw [decide_eq_true (by omega), Bool.true_or, Bool.and_true]
      refine Ev.step (f := fun k => ((rillmeterref12_Sign.f k seed key (i : Int)).bind fun t311 => (if ok = true then ((rillmeterref12_Fits.f (wrap64 (rows[i][j] + (wrap64 (n * t311))))).bind fun t312 => (if (List.take j (signed_Add.upd seed key n (i : Int) rows[i])).length < 17592186044416 then (rillmeterref12_Add.l1 k key n t312 acc (i : Int) (List.take j (signed_Add.upd seed key n (i : Int) rows[i]) ++ [wrap64 (rows[i][j] + (wrap64 (n * t311)))]) (scell seed key (i : Int) rows[i].length) ((j + 1 : Nat) : Int) seed rows) else (none))) else (if (List.take j (signed_Add.upd seed key n (i : Int) rows[i])).length < 17592186044416 then (rillmeterref12_Add.l1 k key n false acc (i : Int) (List.take j (signed_Add.upd seed key n (i : Int) rows[i]) ++ [wrap64 (rows[i][j] + (wrap64 (n * t311)))]) (scell seed key (i : Int) rows[i].length) ((j + 1 : Nat) : Int) seed rows) else (none))))) (fun k => ?_) (Ev.bind (f := fun k t311 => (if ok = true then ((rillmeterref12_Fits.f (wrap64 (rows[i][j] + (wrap64 (n * t311))))).bind fun t312 => (if (List.take j (signed_Add.upd seed key n (i : Int) rows[i])).length < 17592186044416 then (rillmeterref12_Add.l1 k key n t312 acc (i : Int) (List.take j (signed_Add.upd seed key n (i : Int) rows[i]) ++ [wrap64 (rows[i][j] + (wrap64 (n * t311)))]) (scell seed key (i : Int) rows[i].length) ((j + 1 : Nat) : Int) seed rows) else (none))) else (if (List.take j (signed_Add.upd seed key n (i : Int) rows[i])).length < 17592186044416 then (rillmeterref12_Add.l1 k key n false acc (i : Int) (List.take j (signed_Add.upd seed key n (i : Int) rows[i]) ++ [wrap64 (rows[i][j] + (wrap64 (n * t311)))]) (scell seed key (i : Int) rows[i].length) ((j + 1 : Nat) : Int) seed rows) else (none)))) (ref12_Sign_ev seed key (i : Int) h0 hs (by omega) (by omega)) ?_)
      · simp only [rillmeterref12_Add.l1]
        rw [rdL1_get rows i hi, if_pos (by omega), if_pos (by omega), if_pos (by omega), if_pos (by omega), if_pos e, rd_get _ j hjl, w64_id (x := (j : Int) + 1) (by omega) (by omega)]
        rfl
      · rw [Int.mul_comm n, w64_id (x := ssign seed key (i : Int) * n) (by omega) (by omega), w64_id (x := rows[i][j] + _) (by omega) (by omega), ref12_Fits_f]
        have hrd : rd rows[i] (scell seed key (i : Int) rows[i].length) = rows[i][j] := by rw [← e, rd_get _ j hjl]
        rw [hnew, hrd] at hnx
        cases ok with
        | true => rw [Bool.true_and] at hnx; simp only [if_pos trivial, Option.bind_some, if_pos htl]; exact hnx
        | false => rw [Bool.false_and] at hnx; simp only [Bool.false_eq_true, if_false, if_pos htl]; exact hnx
    · rw [if_neg e] at hnx
      have hok : (ok && (decide ((j : Int) ≤ scell seed key (i : Int) rows[i].length) || signed_Right.fits (signed_Add.new seed key n (i : Int) rows[i]))) = (ok && (decide (((j + 1 : Nat) : Int) ≤ scell seed key (i : Int) rows[i].length) || signed_Right.fits (signed_Add.new seed key n (i : Int) rows[i]))) := by
        congr 2
        exact decide_eq_decide.2 (by omega)
      rw [← hok] at hnx
      generalize (ok && (decide ((j : Int) ≤ scell seed key (i : Int) rows[i].length) || signed_Right.fits (signed_Add.new seed key n (i : Int) rows[i]))) = ok2 at hnx
      refine Ev.step (fun k => ?_) hnx
      simp only [rillmeterref12_Add.l1]
      rw [rdL1_get rows i hi, if_pos (by omega), if_pos (by omega), if_pos (by omega), if_pos (by omega), if_neg e, rd_get _ j hjl, w64_id (x := (j : Int) + 1) (by omega) (by omega), ref12_Fits_f, (fits_iff _).2 hv, Option.bind_some, if_pos htl]
      cases ok2 with
      | true => rw [if_pos rfl]; rfl
      | false => rw [if_neg (by simp), if_pos htl]; rfl
/-- Do the rows from i on stay within what fits? -/
def fitsFrom (seed : Int) (key : ByteArray) (n : Int) (rows : List (List Int)) (i : Nat) : Bool := (rows.mapIdx (fun j r => decide (j < i) || signed_Right.fits (signed_Add.new seed key n (j : Int) r))).all id
theorem ref12_Add_l0 {rows : List (List Int)} (h : OkRows rows) (seed : Int) (key : ByteArray) (n : Int) (h0 : 0 ≤ seed) (hs : key.size ≤ 1000000) (hn : -1099511627776 ≤ n ∧ n ≤ 1099511627776) (d : Nat) : ∀ (i : Nat) (ok : Bool), i + d = rows.length → (ok = true ↔ ∀ q, q < i → ∀ (hq : q < rows.length), signed_Right.fits (signed_Add.new seed key n (q : Int) rows[q]) = true) →
    ∃ b, (b = true ↔ addFits seed key n rows) ∧ Ev (fun k => rillmeterref12_Add.l0 k key n ok ((addRows seed key n rows).take i) (i : Int) seed rows) (seed, addRows seed key n rows, b) := by
  have hnum := h.num
  have hal := addRows_length seed key n rows
  induction d with
  | zero =>
    intro i ok hi hok
    refine ⟨ok, ?_, ?_⟩
    · rw [hok]; exact ⟨fun hx j hj => hx j (by omega) hj, fun hx q _ hq => hx q hq⟩
    · rw [List.take_of_length_le (by omega)]
      refine Ev.step (f := fun _ => some (seed, addRows seed key n rows, ok)) (fun k => ?_) (Ev.now _)
      simp only [rillmeterref12_Add.l0]
      rw [if_neg (by omega)]
  | succ d ih =>
    intro i ok hi hok
    have hil : i < rows.length := by omega
    have hlen := h.len _ (List.getElem_mem hil)
    have hc := scell_in seed key (i : Int) rows[i].length hlen.1
    obtain ⟨b, hb, hev⟩ := ih (i + 1) (ok && signed_Right.fits (signed_Add.new seed key n (i : Int) rows[i])) (by omega) (by
      rw [Bool.and_eq_true, hok]
      constructor
      · rintro ⟨h1, h2⟩ q hq hql
        by_cases e : q = i
        · subst e; exact h2
        · exact h1 q (by omega) hql
      · intro hx
        exact ⟨fun q hq hql => hx q (by omega) hql, hx i (by omega) hil⟩)
    refine ⟨b, hb, ?_⟩
    have htk : (addRows seed key n rows).take (i + 1) = (addRows seed key n rows).take i ++ [signed_Add.upd seed key n (i : Int) rows[i]] := by
      rw [List.take_add_one, addRows_get seed key n rows i hil]; rfl
    rw [htk] at hev
    have hl1 := ref12_Add_l1 h seed key n h0 hs hn i hil ((addRows seed key n rows).take i) (by rw [List.length_take]; omega) ok _ hev rows[i].length 0 (by omega)
    rw [List.take_zero, decide_eq_true (by omega), Bool.true_or, Bool.and_true] at hl1
    refine Ev.step (f := fun k => ((rillmeterref12_Cell.f k seed key (i : Int) (rows[i].length : Int)).bind fun t304 => (rillmeterref12_Add.l1 k key n ok ((addRows seed key n rows).take i) (i : Int) ([] : List Int) t304 0 seed rows))) (fun k => ?_) (Ev.bind (f := fun k t304 => (rillmeterref12_Add.l1 k key n ok ((addRows seed key n rows).take i) (i : Int) ([] : List Int) t304 0 seed rows)) (ref12_Cell_ev seed key (i : Int) (rows[i].length : Int) h0 hs (by omega) (by omega) (by omega)) hl1)
    simp only [rillmeterref12_Add.l0]
    rw [rdL1_get rows i hil, if_pos (by omega), if_pos (by omega)]
theorem ref12_Add_ev {rows : List (List Int)} (h : OkRows rows) (seed : Int) (key : ByteArray) (n : Int) (h0 : 0 ≤ seed) (hs : key.size ≤ 1000000) (hn : -1099511627776 ≤ n ∧ n ≤ 1099511627776) :
    ∃ b, (b = true ↔ addFits seed key n rows) ∧ Ev (fun k => rillmeterref12_Add.f k seed rows key n) (seed, addRows seed key n rows, b) := by
  obtain ⟨b, hb, hev⟩ := ref12_Add_l0 h seed key n h0 hs hn rows.length 0 true (by omega) ⟨fun _ q hq => absurd hq (Nat.not_lt_zero _), fun _ => rfl⟩
  exact ⟨b, hb, hev⟩
end Go.Proofs.Yteaeigpeaneicaa.G
end

section
/- Layer 12: the document's middle one is the sorted list's middle one. -/
namespace Go.Proofs.Yteaeigpeaneicaa.G
open Go Go.RowKit Go.Proofs.YteaeigpeaneicaaW.PrintWords Go.Proofs.YteaeigpeaneicaaPlain
def lessN (l : List Int) (v : Int) : Nat := l.countP (fun x => decide (x < v))
def moreN (l : List Int) (v : Int) : Nat := l.countP (fun x => decide (v < x))
theorem srt_perm (l : List Int) : (srt l).Perm l := List.mergeSort_perm l _
theorem srt_sorted (l : List Int) : (srt l).Pairwise (fun x y => x ≤ y) := by
  have h := List.pairwise_mergeSort (le := fun x y : Int => decide (x ≤ y)) (fun a b c h1 h2 => by simp at *; omega) (fun a b => by simp; omega) l
  exact h.imp (fun h => by simpa using h)
theorem srt_le (l : List Int) (i j : Nat) (hij : i ≤ j) (hj : j < (srt l).length) : (srt l)[i] ≤ (srt l)[j] := by
  by_cases e : i = j
  · subst e; exact Int.le_refl _
  · exact List.pairwise_iff_getElem.1 (srt_sorted l) i j (by omega) hj (by omega)
theorem count_take (l : List Int) (p : Int → Bool) (m : Nat) (hp : ∀ i, i < m → ∀ (h : i < l.length), p l[i] = true) (hm : m ≤ l.length) : m ≤ l.countP p := by
  have e := List.take_append_drop m l
  rw [← e, List.countP_append]
  have : (l.take m).countP p = (l.take m).length := List.countP_eq_length.2 (fun x hx => by
    obtain ⟨i, hi, rfl⟩ := List.getElem_of_mem hx
    rw [List.length_take] at hi
    rw [List.getElem_take]
    exact hp i (by omega) (by omega))
  rw [this, List.length_take]; omega
theorem count_drop (l : List Int) (p : Int → Bool) (m : Nat) (hp : ∀ i, m ≤ i → ∀ (h : i < l.length), p l[i] = true) : l.length - m ≤ l.countP p := by
  have e := List.take_append_drop m l
  rw [← e, List.countP_append]
  have : (l.drop m).countP p = (l.drop m).length := List.countP_eq_length.2 (fun x hx => by
    obtain ⟨i, hi, rfl⟩ := List.getElem_of_mem hx
    rw [List.length_drop] at hi
    rw [List.getElem_drop]
    exact hp (m + i) (by omega) (by omega))
  rw [this, List.length_drop, List.take_append_drop]; omega
theorem count_none (l : List Int) (p : Int → Bool) (m : Nat) (hp : ∀ i, m ≤ i → ∀ (h : i < l.length), p l[i] = false) : l.countP p ≤ m := by
  have e := List.take_append_drop m l
  rw [← e, List.countP_append]
  have h2 : (l.drop m).countP p = 0 := List.countP_eq_zero.2 (fun x hx => by
    obtain ⟨i, hi, rfl⟩ := List.getElem_of_mem hx
    rw [List.length_drop] at hi
    rw [List.getElem_drop, hp (m + i) (by omega) (by omega)]
    simp)
  have h1 : (l.take m).countP p ≤ (l.take m).length := List.countP_le_length
  rw [List.length_take] at h1
  omega
theorem count_none' (l : List Int) (p : Int → Bool) (m : Nat) (hp : ∀ i, i < m → ∀ (h : i < l.length), p l[i] = false) : l.countP p ≤ l.length - m := by
  have e := List.take_append_drop m l
  have h2 : (l.take m).countP p = 0 := List.countP_eq_zero.2 (fun x hx => by
    obtain ⟨i, hi, rfl⟩ := List.getElem_of_mem hx
    rw [List.length_take] at hi
    rw [List.getElem_take, hp i (by omega) (by omega)]
    simp)
  have h1 : (l.drop m).countP p ≤ (l.drop m).length := List.countP_le_length
  rw [List.length_drop] at h1
  have h3 : l.countP p = (l.take m).countP p + (l.drop m).countP p := by rw [← List.countP_append, e]
  omega
theorem med_get {l : List Int} (h : l ≠ []) : ∃ hm : l.length / 2 < (srt l).length, med l = (srt l)[l.length / 2] := by
  have hp : 0 < l.length := List.length_pos_iff.2 h
  have hm : l.length / 2 < (srt l).length := by rw [srt_length]; omega
  exact ⟨hm, by unfold med; rw [rd_get (srt l) _ hm]⟩
theorem med_less {l : List Int} (h : l ≠ []) : lessN l (med l) ≤ l.length / 2 := by
  obtain ⟨hm, e⟩ := med_get h
  unfold lessN
  rw [← (srt_perm l).countP_eq, e]
  refine count_none _ _ _ (fun i hi hl => ?_)
  have := srt_le l (l.length / 2) i hi hl
  exact decide_eq_false (by omega)
theorem med_more {l : List Int} (h : l ≠ []) (ho : l.length % 2 = 1) : moreN l (med l) ≤ l.length / 2 := by
  obtain ⟨hm, e⟩ := med_get h
  unfold moreN
  rw [← (srt_perm l).countP_eq, e]
  have := count_none' (srt l) (fun x => decide ((srt l)[l.length / 2] < x)) (l.length / 2 + 1) (fun i hi hl => by
    have := srt_le l i (l.length / 2) (by omega) hm
    exact decide_eq_false (by omega))
  rw [srt_length] at this
  omega
/-- More than half of a list's numbers are at least so big: then so is the middle one. -/
theorem med_ge {l : List Int} (h : l ≠ []) (v : Int) (hc : l.length / 2 < l.countP (fun x => decide (v ≤ x))) : v ≤ med l := by
  obtain ⟨hm, e⟩ := med_get h
  rw [← (srt_perm l).countP_eq] at hc
  rw [e]
  by_cases c : v ≤ (srt l)[l.length / 2]
  · exact c
  · exfalso
    have hl := srt_length l
    have h1 := count_none' (srt l) (fun x => decide (v ≤ x)) (l.length / 2 + 1) (fun i hi hx => decide_eq_false (by
      have := srt_le l i (l.length / 2) (by omega) hm
      omega))
    omega
theorem med_le {l : List Int} (h : l ≠ []) (ho : l.length % 2 = 1) (v : Int) (hc : l.length / 2 < l.countP (fun x => decide (x ≤ v))) : med l ≤ v := by
  obtain ⟨hm, e⟩ := med_get h
  rw [← (srt_perm l).countP_eq] at hc
  rw [e]
  by_cases c : (srt l)[l.length / 2] ≤ v
  · exact c
  · exfalso
    have h1 := count_none (srt l) (fun x => decide (x ≤ v)) (l.length / 2) (fun i hi hx => decide_eq_false (by
      have := srt_le l (l.length / 2) i hi hx
      omega))
    omega
theorem med_unique {l : List Int} (h : l ≠ []) (ho : l.length % 2 = 1) (v : Int) (h1 : lessN l v ≤ l.length / 2) (h2 : moreN l v ≤ l.length / 2) : v = med l := by
  have a : v ≤ med l := by
    refine med_ge h v ?_
    have e := List.length_eq_countP_add_countP (fun x => decide (x < v)) (l := l)
    have e2 : l.countP (fun a => decide ¬(decide (a < v)) = true) = l.countP (fun x => decide (v ≤ x)) := by
      congr 1; funext x; simp
    unfold lessN at h1
    rw [e2] at e
    omega
  have b : med l ≤ v := by
    refine med_le h ho v ?_
    have e := List.length_eq_countP_add_countP (fun x => decide (v < x)) (l := l)
    have e2 : l.countP (fun a => decide ¬(decide (v < a)) = true) = l.countP (fun x => decide (x ≤ v)) := by
      congr 1; funext x; simp
    unfold moreN at h2
    rw [e2] at e
    omega
  omega
/-! Get -/
theorem lessN_take_succ (l : List Int) (v : Int) (j : Nat) (h : j < l.length) : lessN (l.take (j + 1)) v = lessN (l.take j) v + (if l[j] < v then 1 else 0) := by
  unfold lessN
  rw [List.take_add_one, List.getElem?_eq_getElem h, List.countP_append]
  simp [List.countP_cons]
theorem moreN_take_succ (l : List Int) (v : Int) (j : Nat) (h : j < l.length) : moreN (l.take (j + 1)) v = moreN (l.take j) v + (if v < l[j] then 1 else 0) := by
  unfold moreN
  rw [List.take_add_one, List.getElem?_eq_getElem h, List.countP_append]
  simp [List.countP_cons]
theorem lessN_le (l : List Int) (v : Int) : lessN l v ≤ l.length := List.countP_le_length
theorem moreN_le (l : List Int) (v : Int) : moreN l v ≤ l.length := List.countP_le_length
theorem ref12_Get_l2 (l : List Int) (hl : l.length ≤ 1000) (i : Nat) (hi : i < l.length) (r : Int) (hgood : lessN l l[i] ≤ l.length / 2 → moreN l l[i] ≤ l.length / 2 → r = l[i])
    (hbad : ¬ (lessN l l[i] ≤ l.length / 2 ∧ moreN l l[i] ≤ l.length / 2) → Ev (fun k => rillmeterref12_Get.l1 k l ((i + 1 : Nat) : Int)) r) (d : Nat) : ∀ j : Nat, j + d = l.length →
    Ev (fun k => rillmeterref12_Get.l2 k l (i : Int) (lessN (l.take j) l[i] : Int) (moreN (l.take j) l[i] : Int) (j : Int)) r := by
  induction d with
  | zero =>
    intro j hj
    rw [List.take_of_length_le (by omega)]
    have e2 : wrap64 ((l.length : Int) / 2) = ((l.length / 2 : Nat) : Int) := by rw [w64_id (by omega) (by omega)]; omega
    by_cases c : lessN l l[i] ≤ l.length / 2 ∧ moreN l l[i] ≤ l.length / 2
    · rw [hgood c.1 c.2]
      refine Ev.step (f := fun _ => some l[i]) (fun k => ?_) (Ev.now _)
      simp only [rillmeterref12_Get.l2]
      rw [if_neg (by omega), e2, if_pos (by omega), if_pos (by omega), if_pos (by omega), if_pos (by omega), rd_get l i hi]
    · refine Ev.step (fun k => ?_) (hbad c)
      simp only [rillmeterref12_Get.l2]
      rw [if_neg (by omega), e2, w64_id (x := (i : Int) + 1) (by omega) (by omega)]
      by_cases c1 : lessN l l[i] ≤ l.length / 2
      · rw [if_pos (by omega), if_neg (by omega)]; rfl
      · rw [if_neg (by omega)]; rfl
  | succ d ih =>
    intro j hj
    have hjl : j < l.length := by omega
    have h := ih (j + 1) (by omega)
    rw [lessN_take_succ l _ j hjl, moreN_take_succ l _ j hjl] at h
    have b1 := lessN_le (l.take j) l[i]
    have b2 := moreN_le (l.take j) l[i]
    rw [List.length_take] at b1 b2
    refine Ev.step (fun k => ?_) h
    simp only [rillmeterref12_Get.l2]
    rw [if_pos (by omega), if_pos (by omega), if_pos (by omega), if_pos (by omega), rd_get l i hi, rd_get l j hjl, w64_id (x := (j : Int) + 1) (by omega) (by omega), w64_id (x := (lessN (l.take j) l[i] : Int) + 1) (by omega) (by omega), w64_id (x := (moreN (l.take j) l[i] : Int) + 1) (by omega) (by omega)]
    by_cases c1 : l[j] < l[i]
    · rw [if_pos c1, if_neg (by omega), if_pos c1, if_neg (by omega)]; rfl
    · by_cases c2 : l[i] < l[j]
      · rw [if_neg c1, if_pos c2, if_neg c1, if_pos c2]; rfl
      · rw [if_neg c1, if_neg c2, if_neg c1, if_neg c2]; rfl
theorem ref12_Get_l1 (l : List Int) (hl : l.length ≤ 1000) (hne : l ≠ []) (ho : l.length % 2 = 1) (d : Nat) : ∀ i : Nat, i + d = l.length → (∀ q, q < i → ∀ (h : q < l.length), l[q] ≠ med l) → Ev (fun k => rillmeterref12_Get.l1 k l (i : Int)) (med l) := by
  induction d with
  | zero =>
    intro i hi hp
    obtain ⟨q, hq, e⟩ := List.getElem_of_mem (med_mem hne)
    exact absurd e (hp q (by omega) hq)
  | succ d ih =>
    intro i hi hp
    have hil : i < l.length := by omega
    refine Ev.step (fun k => ?_) (ref12_Get_l2 l hl i hil (med l) (fun h1 h2 => (med_unique hne ho _ h1 h2).symm) (fun hb => ih (i + 1) (by omega) (fun q hq h => ?_)) l.length 0 (by omega))
    · simp only [rillmeterref12_Get.l1]
      rw [if_pos (by omega)]
      rfl
    · by_cases e : q = i
      · subst e
        intro e2
        refine hb ?_
        rw [e2]
        exact ⟨med_less hne, med_more hne ho⟩
      · exact hp q (by omega) h
theorem ref12_Get_l0 {rows : List (List Int)} (h : OkRows rows) (seed : Int) (key : ByteArray) (h0 : 0 ≤ seed) (hs : key.size ≤ 1000000) (d : Nat) : ∀ i : Nat, i + d = rows.length →
    Ev (fun k => rillmeterref12_Get.l0 k key ((getL seed key rows).take i) (i : Int) seed rows) (med (getL seed key rows)) := by
  have hnum := h.num
  have hodd := h.odd
  have hgl := getL_length seed key rows
  induction d with
  | zero =>
    intro i hi
    have hm := ref12_Get_l1 (getL seed key rows) (by omega) (getL_ne h seed key) (by omega) (getL seed key rows).length 0 (by omega) (fun q hq => absurd hq (Nat.not_lt_zero _))
    rw [List.take_of_length_le (by omega)]
    refine Ev.step (fun k => ?_) hm
    simp only [rillmeterref12_Get.l0]
    rw [if_neg (by omega)]
    rfl
  | succ d ih =>
    intro i hi
    have hil : i < rows.length := by omega
    have hr := h.len _ (List.getElem_mem hil)
    have hc := scell_in seed key (i : Int) rows[i].length hr.1
    have hv := h.val _ (List.getElem_mem hil) _ (rd_mem rows[i] _ hc.1 hc.2)
    have hm := ssign_mul seed key (i : Int) (rd rows[i] (scell seed key (i : Int) rows[i].length))
    have hnx := ih (i + 1) (by omega)
    rw [show ((i + 1 : Nat) : Int) = (i : Int) + 1 from Int.natCast_succ i] at hnx
    have htk : (getL seed key rows).take (i + 1) = (getL seed key rows).take i ++ [ssign seed key (i : Int) * rd rows[i] (scell seed key (i : Int) rows[i].length)] := by
      rw [List.take_succ_eq_append_getElem (by omega)]
      congr 2
      simp [getL]
    rw [htk] at hnx
    have hq : ((getL seed key rows).take i).length < 17592186044416 := by rw [List.length_take]; omega
    have hi0 : 0 ≤ (i : Int) := by omega
    refine Ev.step (f := fun k => (rillmeterref12_Sign.f k seed key (i : Int)).bind fun t286 => ((rillmeterref12_Cell.f k seed key (i : Int) (rows[i].length : Int)).bind fun t289 => (if 0 ≤ t289 then (if t289 < (rows[i].length : Int) then (if ((getL seed key rows).take i).length < 17592186044416 then (rillmeterref12_Get.l0 k key (((getL seed key rows).take i) ++ [wrap64 (t286 * (rd rows[i] t289))]) ((i : Int) + 1) seed rows) else (none)) else (none)) else (none)))) (fun k => ?_) (Ev.bind (f := fun k t286 => ((rillmeterref12_Cell.f k seed key (i : Int) (rows[i].length : Int)).bind fun t289 => (if 0 ≤ t289 then (if t289 < (rows[i].length : Int) then (if ((getL seed key rows).take i).length < 17592186044416 then (rillmeterref12_Get.l0 k key (((getL seed key rows).take i) ++ [wrap64 (t286 * (rd rows[i] t289))]) ((i : Int) + 1) seed rows) else (none)) else (none)) else (none)))) (ref12_Sign_ev seed key (i : Int) h0 hs (by omega) (by omega)) (Ev.bind (f := fun k t289 => (if 0 ≤ t289 then (if t289 < (rows[i].length : Int) then (if ((getL seed key rows).take i).length < 17592186044416 then (rillmeterref12_Get.l0 k key (((getL seed key rows).take i) ++ [wrap64 (ssign seed key (i : Int) * (rd rows[i] t289))]) ((i : Int) + 1) seed rows) else (none)) else (none)) else (none))) (ref12_Cell_ev seed key (i : Int) (rows[i].length : Int) h0 hs (by omega) (by omega) (by omega)) ?_))
    · simp only [rillmeterref12_Get.l0]
      rw [if_pos (by omega), rdL1_get rows i hil, w64_id (x := (i : Int) + 1) (by omega) (by omega)]
      simp only [if_pos hi0]
    · simp only [if_pos hc.1, if_pos hc.2, if_pos hq]
      rw [w64_id (by omega) (by omega)]
      exact hnx
theorem ref12_Get_ev {rows : List (List Int)} (h : OkRows rows) (seed : Int) (key : ByteArray) (h0 : 0 ≤ seed) (hs : key.size ≤ 1000000) : Ev (fun k => rillmeterref12_Get.f k seed rows key) (med (getL seed key rows)) :=
  ref12_Get_l0 h seed key h0 hs rows.length 0 (by omega)
end Go.Proofs.Yteaeigpeaneicaa.G
end

section
/- How a law's arguments, read as data, lie in memory: as the print's words tell it. -/
namespace Go.Proofs.YteaeigpeaneicaaOpen
open Go Go.RowKit Go.Proofs.YteaeigpeaneicaaW.PrintWords

/-- Whatever reads as data of type T lies in memory as a value of the kind d, that is good. -/
def Opens (P : Program) (T : TypeId) {α : Type} (d : Kd α) (good : α → Prop) : Prop :=
  ∀ (H : Type) (enc : TypeId × Value → H) (W : World) (spare : Nat → Bool) (held : Bool) (fuel : Nat) (cs : List Value) (x : DataW H × List MemPlace),
    DataW.trod enc P W 0 spare held fuel T cs = some x → (∀ q ∈ DataW.weights P T x.1, q ≤ 140737488351232) → ∃ a : α, d.K W a cs ∧ good a

variable {P : Program}
theorem opens_int {T : TypeId} {k : IntKind} (ht : P.underlying T = some (.int k)) : Opens P T (Kd.int k) (fun n => (Lit.int k n).wf = true) := by
  intro H enc W spare held fuel cs x h _
  obtain ⟨n, rfl, _, hw⟩ := DataW.trod_int ht h
  exact ⟨n, rfl, hw⟩
theorem opens_bool {T : TypeId} (ht : P.underlying T = some .bool) : Opens P T Kd.bool (fun _ => True) := by
  intro H enc W spare held fuel cs x h _
  obtain ⟨n, rfl, _⟩ := DataW.trod_bool ht h
  exact ⟨n, rfl, trivial⟩
theorem opens_string {T : TypeId} (ht : P.underlying T = some .string) : Opens P T Kd.string (fun s => s.size ≤ 140737488351232) := by
  intro H enc W spare held fuel cs x h hq
  obtain ⟨s, rfl, rfl, _⟩ := DataW.trod_string ht h
  have h1 := hq s.data.toList.length (by simp [DataW.weights])
  rw [Array.length_toList] at h1
  exact ⟨s, rfl, h1⟩
theorem cells_at {W : World} {a : Addr} {n : Nat} {cs : List Value} (h : W.cells? 0 a n = some cs) : cs.length = n ∧ ∀ i u, cs[i]? = some u → W.cell? (a.add i) = some u := by
  unfold World.cells? at h
  rw [if_pos (Nat.zero_le _)] at h
  have hl : cs.length = n := by have := mapM_some_length h; simpa using this
  refine ⟨hl, fun i u hu => ?_⟩
  have hi : i < n := by have := (List.getElem?_eq_some_iff.1 hu).1; omega
  have h1 := mapM_some_get h i i (by simp [hi])
  rw [h1, hu]
theorem weights_all {H : Type} {e : TypeId} {l : List (DataW H)} {d : DataW H} (hd : d ∈ l) : ∀ q ∈ DataW.weights P e d, q ∈ DataW.weightsAll P e l := by
  induction l with
  | nil => cases hd
  | cons y t ih =>
    intro q hq
    simp only [DataW.weightsAll, List.mem_append]
    rcases List.mem_cons.1 hd with rfl | h
    · exact .inl hq
    · exact .inr (ih h q hq)
theorem opens_slice {T e : TypeId} {α : Type} {d : Kd α} {good : α → Prop} {bytes : Nat} (ht : P.underlying T = some (.slice e)) (hc : P.cellsOf e = d.sz) (hb : P.bytesOf e = bytes) (he : Opens P e d good) :
    Opens P T (Kd.slice e d) (fun xs => (∀ x ∈ xs, good x) ∧ xs.length * bytes ≤ 140737488351232) := by
  intro H enc W spare held fuel cs x h hq
  rcases Go.Deep.open_slice ht h with ⟨rfl, rfl⟩ | ⟨a, len, cap, m, n, D, Pl, rfl, _, hlc, hcap, hm, rfl, hel⟩
  · exact ⟨[], ⟨none, 0, rfl, Nat.le_refl _, Kd.C_nil _ _⟩, And.intro (fun x hx => by cases hx) (by simp)⟩
  · have hlm : len ≤ m := by rw [hm]; split <;> omega
    simp only [DataW.weights, ht, List.mem_cons, List.mem_append] at hq
    have hall : ∀ i : Nat, ∃ z : Option α, i < len → ∃ y cs', z = some y ∧ W.cells? 0 (a.add (i * P.cellsOf e)) (P.cellsOf e) = some cs' ∧ d.K W y cs' ∧ good y := by
      intro i
      by_cases hi : i < len
      · obtain ⟨cs', h1, h2⟩ := hel i (by omega)
        obtain ⟨y, hy, hg⟩ := he H enc W spare held n cs' (D i, Pl i) h2 (fun q hq1 => hq q (.inr (.inl (weights_all (List.mem_map.2 ⟨i, List.mem_range.2 hi, rfl⟩) q hq1))))
        exact ⟨some y, fun _ => ⟨y, cs', rfl, h1, hy, hg⟩⟩
      · exact ⟨none, fun h => absurd h hi⟩
    obtain ⟨F, hF⟩ := Classical.axiomOfChoice hall
    have hsome : ∀ i, i < len → ∃ y, F i = some y := fun i hi => by obtain ⟨y, _, e1, _⟩ := hF i hi; exact ⟨y, e1⟩
    have hxs : ∃ xs : List α, xs.length = len ∧ ∀ i, i < len → xs[i]? = F i := by
      clear hel hF hall hq hlm hlc
      have : ∀ k, k ≤ len → ∃ xs : List α, xs.length = k ∧ ∀ i, i < k → xs[i]? = F i := by
        intro k
        induction k with
        | zero => exact fun _ => ⟨[], rfl, fun i hi => absurd hi (Nat.not_lt_zero _)⟩
        | succ k ih =>
          intro hk
          obtain ⟨xs, hl, hx⟩ := ih (by omega)
          obtain ⟨y, hy⟩ := hsome k (by omega)
          refine ⟨xs ++ [y], by simp [hl], fun i hi => ?_⟩
          by_cases hik : i < k
          · rw [List.getElem?_append_left (by omega)]; exact hx i hik
          · obtain rfl : i = k := by omega
            rw [List.getElem?_append_right (by omega), hl, Nat.sub_self, hy]; rfl
      exact this len (Nat.le_refl _)
    obtain ⟨xs, hlen, hx⟩ := hxs
    have hw : len * bytes ≤ 140737488351232 := by
      have h1 := hq _ (.inl rfl)
      rw [hb] at h1
      refine Nat.le_trans (Nat.mul_le_mul_right _ ?_) h1
      simp
    refine ⟨xs, ⟨some a, cap, by rw [hlen], by omega, rfl, by unfold maxLen at hcap; omega, fun hp => ⟨a, rfl, fun j p hj => ?_⟩⟩, fun p hp => ?_, by rw [hlen]; exact hw⟩
    · have hjl : j < len := by have := (List.getElem?_eq_some_iff.1 hj).1; omega
      obtain ⟨y, cs', e1, h1, hK, _⟩ := hF j hjl
      rw [hx j hjl, e1] at hj
      cases hj
      obtain ⟨hl1, hc1⟩ := cells_at h1
      refine ⟨cs', by rw [hl1, hc], hK, fun i u hu => ?_⟩
      rw [← hc1 i u hu, Addr.add_add, hc]
    · obtain ⟨j, hj, rfl⟩ := List.getElem_of_mem hp
      obtain ⟨y, cs', e1, _, _, hg⟩ := hF j (by omega)
      have h2 := hx j (by omega)
      rw [List.getElem?_eq_getElem hj, e1] at h2
      cases h2
      exact hg
/-- The fields of a struct, from a place on. -/
def OpensAt (P : Program) (fs : List Field) (o : Nat) {α : Type} (d : Kd α) (good : α → Prop) : Prop :=
  ∀ (H : Type) (enc : TypeId × Value → H) (W : World) (spare : Nat → Bool) (held : Bool) (n : Nat) (cs : List Value), cs.length = o + d.sz →
    (∀ f ∈ fs, ∃ y : DataW H × List MemPlace, DataW.trod enc P W 0 spare held n f.type ((cs.drop f.offset).take (P.cellsOf f.type)) = some y ∧ ∀ q ∈ DataW.weights P f.type y.1, q ≤ 140737488351232) →
    ∃ a : α, d.K W a (cs.drop o) ∧ good a
theorem at_one {f : Field} {o : Nat} {α : Type} {d : Kd α} {good : α → Prop} (ho : f.offset = o) (hc : P.cellsOf f.type = d.sz) (hf : Opens P f.type d good) : OpensAt P [f] o d good := by
  intro H enc W spare held n cs hl h
  obtain ⟨y, hy, hq⟩ := h f List.mem_cons_self
  obtain ⟨a, hK, hg⟩ := hf H enc W spare held n _ y hy hq
  rw [ho, hc, List.take_of_length_le (by rw [List.length_drop]; omega)] at hK
  exact ⟨a, hK, hg⟩
theorem at_cons {f : Field} {fs : List Field} {o : Nat} {α β : Type} {d : Kd α} {d' : Kd β} {good : α → Prop} {good' : β → Prop} (ho : f.offset = o) (hc : P.cellsOf f.type = d.sz) (hf : Opens P f.type d good) (hfs : OpensAt P fs (o + d.sz) d' good') :
    OpensAt P (f :: fs) o (Kd.pair d d') (fun x => good x.1 ∧ good' x.2) := by
  intro H enc W spare held n cs hl h
  obtain ⟨y, hy, hq⟩ := h f List.mem_cons_self
  obtain ⟨a, hK, hg⟩ := hf H enc W spare held n _ y hy hq
  obtain ⟨b, hK', hg'⟩ := hfs H enc W spare held n cs (by rw [hl]; show o + (d.sz + d'.sz) = _; omega) (fun f' hf' => h f' (List.mem_cons_of_mem _ hf'))
  rw [ho, hc] at hK
  refine ⟨(a, b), ⟨_, _, ?_, hK, hK'⟩, hg, hg'⟩
  rw [← List.drop_drop, List.take_append_drop]
theorem opens_struct {T : TypeId} {fs : Array Field} {α : Type} {d : Kd α} {good : α → Prop} (ht : P.underlying T = some (.struct fs)) (hc : P.cellsOf T = d.sz) (hf : OpensAt P fs.toList 0 d good) : Opens P T d good := by
  intro H enc W spare held fuel cs x h hq
  obtain ⟨xs, n, _, rfl, hl, hlen, hget⟩ := DataW.trod_struct ht h
  obtain ⟨a, hK, hg⟩ := hf H enc W spare held n cs (by rw [hl, hc, Nat.zero_add]) (fun f hfm => by
    obtain ⟨i, hi, rfl⟩ := List.getElem_of_mem hfm
    have hi' : i < fs.size := by simpa using hi
    have h1 := hget i fs[i] (by simp [hi'])
    have hi2 : i < xs.length := by omega
    refine ⟨xs[i], by rw [← List.getElem?_eq_getElem hi2, ← h1]; simp, fun q hq1 => hq q ?_⟩
    simp only [DataW.weights, ht]
    refine DataW.weights_mem_each (j := i) (t := fs[i].type) (d := xs[i].1) ?_ ?_ q (by simpa using hq1)
    · simp [hi']
    · simp [hi2])
  exact ⟨a, by simpa using hK, hg⟩
theorem opens_iso {T : TypeId} {α β : Type} {d : Kd α} {f : β → α} {g : α → β} {good : α → Prop} (hfg : ∀ a, f (g a) = a) (h : Opens P T d good) : Opens P T (Kd.iso d f) (fun b => good (f b)) := by
  intro H enc W spare held fuel cs x hx hq
  obtain ⟨a, hK, hg⟩ := h H enc W spare held fuel cs x hx hq
  exact ⟨g a, by show d.K W (f (g a)) cs; rw [hfg]; exact hK, by show good (f (g a)); rw [hfg]; exact hg⟩
/-- An argument. -/
theorem opens_arg {T : TypeId} {α : Type} {d : Kd α} {good : α → Prop} (h : Opens P T d good) {H : Type} {enc : TypeId × Value → H} {W : World} {spare : Nat → Bool} {held : Bool} {v : Value} {dv : DataW H} {ps : List MemPlace} {ts : List TypeId} {ds : List (DataW H)} {j : Nat}
    (hsz : (DataW.weightsEach P ts ds).all (· ≤ reachBytes) = true) (ht : ts[j]? = some T) (hd : ds[j]? = some dv) (hv : DataW.Trod enc P W 0 spare held T v dv ps) : ∃ a : α, d.K W a v.cells.toList ∧ good a := by
  obtain ⟨fuel, hf⟩ := hv
  refine h H enc W spare held fuel _ _ hf (fun q hq => ?_)
  have := List.all_eq_true.1 hsz q (DataW.weights_mem_each ht hd q hq)
  have h2 := of_decide_eq_true this
  simpa [reachBytes] using h2
end Go.Proofs.YteaeigpeaneicaaOpen
end

section
-- Printed by gprint.py: a program of this session over the kit's print. Not trusted: Lean checks it.
namespace Go.Proofs.Yteaeigpeaneicaa.G
open Go.RowKit Go.Proofs.YteaeigpeaneicaaW.PrintWords Go.Proofs.YteaeigpeaneicaaW.PrintLast Go.Proofs.YteaeigpeaneicaaW.PrintMore
attribute [local go_sem] max2_int min2_int max_two min_two max_three min_three max_four min_four   -- for this text's walks alone
set_option linter.unusedVariables false
set_option linter.unusedSimpArgs false

/-! ### rillmeterlaw12_ref: function 11 -/
def rillmeterlaw12_ref.f (a0_0 : Int) (l0_1 : List (List Int)) : Option (Int × (List (List Int))) := some (a0_0, l0_1)
set_option maxHeartbeats 8000000 in
set_option maxRecDepth 100000 in
theorem rillmeterlaw12_ref.calls (a0_0 : Int) (P0_1_ : Nat → Prop) (A0_1 : Option Addr) (c0_1 : Nat) (l0_1 : List (List Int)) (r1 : Int) (r2 : List (List Int)) (w : World) (hs0_1 : Kd.V (Kd.slice 3 (Kd.int .i64)) 33 w w.heap.size (fun k_ => P0_1_ k_) (.slice A0_1 l0_1.length c0_1) l0_1) (h : rillmeterlaw12_ref.f a0_0 l0_1 = some (r1, r2)) :
    Calls Try.prog 11 #[.agg #[.int .u64 a0_0, .slice A0_1 l0_1.length c0_1]] w fun e w' => ∃ v1_ : Value, e = .returned (.agg #[.int .u64 r1, v1_]) ∧ Kd.V (Kd.slice 3 (Kd.int .i64)) 33 w' w.heap.size (fun k_ => (P0_1_ k_ ∨ w.heap.size ≤ k_)) v1_ r2 ∧ Below w.heap.size w w' := by
  have hu25 := Try.underlying25
  have hu30 := Try.underlying30
  have HO0_1 := Aside0.mk (show Kd.V (Kd.slice 3 (Kd.int .i64)) 33 w w.heap.size (fun k_ => (P0_1_ k_ ∨ w.heap.size ≤ k_)) (.slice A0_1 l0_1.length c0_1) l0_1 from Kd.V_mono hs0_1 (fun k_ hk => .inl hk))
  have HB := Aside0.mk (Below.refl w.heap.size w)
  have H : (some (a0_0, l0_1)) = some (r1, r2) := h
  clear h
  simp only [Option.some.injEq, Prod.mk.injEq] at H
  obtain ⟨rfl, rfl⟩ := H
  go_enter Try.func11, Try.ntmps11
  go_wp2_with (first | ((with_reducible refine gate_dst (N := 1) rfl ?_); refine box_event ?hg (N := 1) ?hd (cs := #[.int .u64 a0_0, .slice A0_1 l0_1.length c0_1]) (t := 25) ?hr ?_; (case hd => rfl); (case hg => rfl); (case hr => first | (go_simp; done) | (go_simp; rfl)); intro gb119 hg w2 hbox hb; have n0_ := Aside0.mk (Kd.V_below (Kd.V_elderB (by (with_reducible repeat (first | apply Kd.V_alloc | apply Kd.V_drewN | apply Kd.V_drew)); exact HO0_1.out) gb119 (Nat.le_of_eq hg.symm)) hb); have n1_ := Aside0.mk (below_step (by repeat (first | (with_reducible first | exact HB.out | apply below_alloc | apply pw_below_drewN | apply below_drew1) | exact HB.out)) hb); have n2_ := Aside0.mk (hbox); have n3_ := Aside0.mk ((by rw [hg]; exact (below_size (by repeat (first | (with_reducible first | exact HB.out | apply below_alloc | apply pw_below_drewN | apply below_drew1) | exact HB.out))) : w.heap.size ≤ gb119)); have n4_ := Aside0.mk ((by rw [hg]; exact (below_size (by repeat (first | (with_reducible first | exact HB.out | apply below_alloc | apply pw_below_drewN | apply below_drew1) | exact HB.out))) : w.heap.size ≤ gb119)); clear HO0_1; clear HB; have HO0_1 := n0_; have HB := n1_; have BK119 := n2_; have GW119 := n3_; have GE119 := n4_; clear n0_ n1_ n2_ n3_ n4_; clear hb hbox hg) | ((with_reducible refine gate_dst (N := 2) rfl ?_); refine box_event ?hg (N := 2) ?hd (cs := #[.int .u64 0, .slice none 0 0]) (t := 30) ?hr ?_; (case hd => rfl); (case hg => rfl); (case hr => first | (go_simp; done) | (go_simp; rfl)); intro gb120 hg w3 hbox hb; have n0_ := Aside0.mk (Kd.V_below (Kd.V_elderB (by (with_reducible repeat (first | apply Kd.V_alloc | apply Kd.V_drewN | apply Kd.V_drew)); exact HO0_1.out) gb120 (Nat.le_of_eq hg.symm)) hb); have n1_ := Aside0.mk (blk_below (g := gb119) (o := .cells #[.int .u64 a0_0, .slice A0_1 l0_1.length c0_1] 25 (0, 0)) (by (with_reducible repeat (first | refine blk_drewN ?_ _ | refine blk_drew ?_ | refine blk_alloc ?_ _)); exact BK119.out) hb); have n2_ := Aside0.mk (below_step (by repeat (first | (with_reducible first | exact HB.out | apply below_alloc | apply pw_below_drewN | apply below_drew1 | refine below_set ?_ GE119.out) | exact HB.out)) hb); have n3_ := Aside0.mk (hbox); have n4_ := Aside0.mk ((by rw [hg]; exact (below_size (by repeat (first | (with_reducible first | exact HB.out | apply below_alloc | apply pw_below_drewN | apply below_drew1 | refine below_set ?_ GE119.out) | exact HB.out))) : w.heap.size ≤ gb120)); have n5_ := Aside0.mk ((by rw [hg]; exact (below_size (by repeat (first | (with_reducible first | exact HB.out | apply below_alloc | apply pw_below_drewN | apply below_drew1 | refine below_set ?_ GE119.out) | exact HB.out))) : w.heap.size ≤ gb120)); have n6_ := Aside0.mk ((by rw [hg]; exact Nat.ne_of_lt (blk_lt (g := gb119) (o := .cells #[.int .u64 a0_0, .slice A0_1 l0_1.length c0_1] 25 (0, 0)) (by (with_reducible repeat (first | refine blk_drewN ?_ _ | refine blk_drew ?_ | refine blk_alloc ?_ _)); exact BK119.out)) : gb119 ≠ gb120)); have n7_ := Aside0.mk ((by rw [hg]; exact Nat.ne_of_gt (blk_lt (g := gb119) (o := .cells #[.int .u64 a0_0, .slice A0_1 l0_1.length c0_1] 25 (0, 0)) (by (with_reducible repeat (first | refine blk_drewN ?_ _ | refine blk_drew ?_ | refine blk_alloc ?_ _)); exact BK119.out)) : gb120 ≠ gb119)); clear HO0_1; clear BK119; clear HB; have HO0_1 := n0_; have BK119 := n1_; have HB := n2_; have BK120 := n3_; have GW120 := n4_; have GE120 := n5_; have NB119_120 := n6_; have NB120_119 := n7_; clear n0_ n1_ n2_ n3_ n4_ n5_ n6_ n7_; clear hb hbox hg; have hnb4 := NB119_120.out; have hnc4 := NB120_119.out; have hcz5_0 : w3.cell? ⟨gb119, 0, none⟩ = some (.int .u64 a0_0) := (blk_cell BK119.out 0).trans rfl; have hcz5_1 : w3.cell? ⟨gb119, 1, none⟩ = some (.slice A0_1 l0_1.length c0_1) := (blk_cell BK119.out 1).trans rfl; have hfz5_0 := blk_frozen BK119.out 0; have hfz5_1 := blk_frozen BK119.out 1; have hcz6_0 : w3.cell? ⟨gb120, 0, none⟩ = some (.int .u64 0) := (blk_cell BK120.out 0).trans rfl; have hcz6_1 : w3.cell? ⟨gb120, 1, none⟩ = some (.slice none 0 0) := (blk_cell BK120.out 1).trans rfl; have hfz6_0 := blk_frozen BK120.out 0; have hfz6_1 := blk_frozen BK120.out 1))
  refine bodyPost_ret (results_cell_row rfl _ _ gb120 30 #[.int .u64 a0_0, .slice A0_1 l0_1.length c0_1] (0, 0) _ rfl (by (with_reducible repeat (first | refine blk_drewN ?_ _ | refine blk_drew ?_ | refine blk_alloc ?_ _)); refine blk_put (cs := #[.int .u64 a0_0, .slice none 0 0]) ?_ 1 _ rfl; (with_reducible repeat (first | refine blk_drewN ?_ _ | refine blk_drew ?_ | refine blk_alloc ?_ _)); refine blk_put (cs := #[.int .u64 0, .slice none 0 0]) ?_ 0 _ rfl; (with_reducible repeat (first | refine blk_drewN ?_ _ | refine blk_drew ?_ | refine blk_alloc ?_ _)); exact BK120.out) Try.underlying30 rfl (by kernel_rfl)) rfl ?_
  exact ⟨_, by first | rfl | (simp [errW_none, errW_some] <;> rfl) | (simp [*, errW_none, errW_some] <;> rfl), by (with_reducible repeat (first | apply Kd.V_alloc | apply Kd.V_drewN | apply Kd.V_drew)); exact Kd.V_mono (ok' := fun k_ => (P0_1_ k_ ∨ w.heap.size ≤ k_)) (Kd.V_far (p := ⟨gb120, 1, none⟩) (Kd.V_far (p := ⟨gb120, 0, none⟩) (Kd.V_mono HO0_1.out (fun k_ hk => (⟨hk, hk.2⟩ : _ ∧ k_ ≠ gb120))) (fun _ hk => hk.2) (.int .u64 a0_0)) (fun _ hk => hk.2) (.slice A0_1 l0_1.length c0_1)) (fun _ hk => hk.1.1.1), by repeat (first | (with_reducible first | exact HB.out | apply below_alloc | apply pw_below_drewN | apply below_drew1 | refine below_set ?_ GE119.out | refine below_set ?_ GE120.out) | exact HB.out)⟩

end Go.Proofs.Yteaeigpeaneicaa.G
end
