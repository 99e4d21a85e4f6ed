/- For any sketch of small rows, right or wrong, and any key of at most a hundred bytes, what the program makes of the sketch by adding so many of the key, and what it tells of it, are what the document's own answer says; conditions: none beyond what the statement itself tells of its arguments. -/
import Derived.Test.YteaeigpeaneicaaCSignedTurns1
import Derived.Test.YteaeigpeaneicaaCSignedTurns2
import Derived.Test.YteaeigpeaneicaaCSignedTurns3
import Derived.Test.YteaeigpeaneicaaRows
import Derived.WalkKit
import Derived.ProofKit
import Derived.OpenShut
import Derived.ShutString
import Derived.ChangeOld
import Derived.Below
import Derived.SizedLaws
section
-- Printed by gprint.py: a program of this session over the kit's print. Not trusted: Lean checks it.
namespace Go.Proofs.Yteaeigpeaneicaa.G
open Go.RowKit Go.Proofs.YteaeigpeaneicaaW.PrintWords Go.Proofs.YteaeigpeaneicaaW.PrintLast Go.Proofs.YteaeigpeaneicaaW.PrintMore
attribute [local go_sem] max2_int min2_int max_two min_two max_three min_three max_four min_four   -- for this text's walks alone
set_option linter.unusedVariables false
set_option linter.unusedSimpArgs false

/-! ### rillmeterlaw12_SignedTurns: function 5 -/
mutual
def rillmeterlaw12_SignedTurns.j0 : Nat → ByteArray → Int → Bool → Int → List (List Int) → Option (Bool)
 | 0, _, _, _, _, _ => none
 | k + 1, x1, x2, x23, x327000, x327001 => if x23 = true then ((rillmeterlaw12_awake.f k).bind fun t328 => (some t328)) else ((rillmeterlaw12_ref.f x327000 x327001).bind fun bt329 => ((signed_Add.f x327000 x327001 x1 x2).bind fun bt334 => ((signed_Get.f k x327000 x327001 x1).bind fun t340 => ((rillmeterref12_Right.f k bt329.1 bt329.2).bind fun t341 => (if t341 = true then (rillmeterlaw12_SignedTurns.l0 k x1 x2 bt334.2.2 t340 (-1) x327000 x327001 bt329.1 bt329.2 bt334.1 bt334.2.1) else ((signed_Right.f x327000 x327001).bind fun t342 => (if t342 = true then (some false) else (if bt334.2.2 = 1 then (if (bt334.2.1.length : Int) = 0 then (if t340 = 0 then ((signed_Cell.f k x327000 x327001 x1 0).bind fun t343 => (if t343 = 0 then ((rillmeterlaw12_awake.f k).bind fun t344 => (some t344)) else (some false))) else (some false)) else (some false)) else (some false)))))))))
def rillmeterlaw12_SignedTurns.l0 : Nat → ByteArray → Int → Int → Int → Int → Int → List (List Int) → Int → List (List Int) → Int → List (List Int) → Option (Bool)
 | 0, _, _, _, _, _, _, _, _, _, _, _ => none
 | k + 1, x1, x2, x9, x10, x11, x327000, x327001, x334000, x334001, x340000, x340001 => if x11 < 9 then (if x11 ≥ 0 then (rillmeterlaw12_SignedTurns.j2 k x1 x2 x9 x10 x11 0 (decide (x11 < (x327001.length : Int))) x327000 x327001 x334000 x334001 x340000 x340001) else (rillmeterlaw12_SignedTurns.j2 k x1 x2 x9 x10 x11 0 false x327000 x327001 x334000 x334001 x340000 x340001)) else ((rillmeterref12_Get.f k x334000 x334001 x1).bind fun t349 => (if x10 = t349 then ((signed_Right.f x327000 x327001).bind fun t350 => (rillmeterlaw12_SignedTurns.j3 k x1 x2 x9 (!t350) x334000 x334001 x340000 x340001)) else (rillmeterlaw12_SignedTurns.j3 k x1 x2 x9 true x334000 x334001 x340000 x340001)))
def rillmeterlaw12_SignedTurns.j2 : Nat → ByteArray → Int → Int → Int → Int → Int → Bool → Int → List (List Int) → Int → List (List Int) → Int → List (List Int) → Option (Bool)
 | 0, _, _, _, _, _, _, _, _, _, _, _, _, _ => none
 | k + 1, x1, x2, x9, x10, x11, x12, x78, x327000, x327001, x334000, x334001, x340000, x340001 => if x78 = true then (if 0 ≤ x11 then (if x11 < (x327001.length : Int) then ((rillmeterref12_Cell.f k x327000 x1 x11 ((rd_L1 x327001 x11).length : Int)).bind fun t346 => ((signed_Cell.f k x327000 x327001 x1 x11).bind fun t347 => (if t347 = t346 then (rillmeterlaw12_SignedTurns.l0 k x1 x2 x9 x10 (wrap64 (x11 + 1)) x327000 x327001 x334000 x334001 x340000 x340001) else (some false)))) else (none)) else (none)) else ((signed_Cell.f k x327000 x327001 x1 x11).bind fun t348 => (if t348 = x12 then (rillmeterlaw12_SignedTurns.l0 k x1 x2 x9 x10 (wrap64 (x11 + 1)) x327000 x327001 x334000 x334001 x340000 x340001) else (some false)))
def rillmeterlaw12_SignedTurns.j3 : Nat → ByteArray → Int → Int → Bool → Int → List (List Int) → Int → List (List Int) → Option (Bool)
 | 0, _, _, _, _, _, _, _, _ => none
 | k + 1, x1, x2, x9, x105, x334000, x334001, x340000, x340001 => if x105 = true then (some false) else ((rillmeterref12_Fits.f x2).bind fun t351 => (if t351 = true then ((rillmeterref12_Add.f k x334000 x334001 x1 x2).bind fun bt353 => (if bt353.2.2 = true then (if x9 = 0 then ((rillmeterlaw12_ref.f x340000 x340001).bind fun bt359 => ((rillmeterref12_Equal.f k bt359.1 bt359.2 bt353.1 bt353.2.1).bind fun t363 => (if t363 = true then ((rillmeterlaw12_awake.f k).bind fun t364 => (some t364)) else (some false)))) else (some false)) else (if x9 = 5 then (if (x340001.length : Int) = 0 then ((rillmeterlaw12_awake.f k).bind fun t365 => (some t365)) else (some false)) else (some false)))) else (if x9 = 1 then (if (x340001.length : Int) = 0 then ((rillmeterlaw12_awake.f k).bind fun t352 => (some t352)) else (some false)) else (some false))))
end
def rillmeterlaw12_SignedTurns.f (k : Nat) (a0_0 : Int) (l0_1 : List (List Int)) (a1 : ByteArray) (a2 : Int) : Option (Bool) := (rillmeterref11_Small.f k l0_1).bind fun t327 => (if t327 = true then (rillmeterlaw12_SignedTurns.j0 k a1 a2 (decide ((a1.size : Int) > 100)) a0_0 l0_1) else (rillmeterlaw12_SignedTurns.j0 k a1 a2 true a0_0 l0_1))
theorem rillmeterlaw12_SignedTurns.mono_l : ∀ k, (∀ y0 y1 y2 y3 y4, LeO (rillmeterlaw12_SignedTurns.j0 k y0 y1 y2 y3 y4) (rillmeterlaw12_SignedTurns.j0 (k + 1) y0 y1 y2 y3 y4)) ∧ (∀ y0 y1 y2 y3 y4 y5 y6 y7 y8 y9 y10, LeO (rillmeterlaw12_SignedTurns.l0 k y0 y1 y2 y3 y4 y5 y6 y7 y8 y9 y10) (rillmeterlaw12_SignedTurns.l0 (k + 1) y0 y1 y2 y3 y4 y5 y6 y7 y8 y9 y10)) ∧ (∀ y0 y1 y2 y3 y4 y5 y6 y7 y8 y9 y10 y11 y12, LeO (rillmeterlaw12_SignedTurns.j2 k y0 y1 y2 y3 y4 y5 y6 y7 y8 y9 y10 y11 y12) (rillmeterlaw12_SignedTurns.j2 (k + 1) y0 y1 y2 y3 y4 y5 y6 y7 y8 y9 y10 y11 y12)) ∧ (∀ y0 y1 y2 y3 y4 y5 y6 y7, LeO (rillmeterlaw12_SignedTurns.j3 k y0 y1 y2 y3 y4 y5 y6 y7) (rillmeterlaw12_SignedTurns.j3 (k + 1) y0 y1 y2 y3 y4 y5 y6 y7))
 | 0 => ⟨fun _ _ _ _ _ r h => by simp [rillmeterlaw12_SignedTurns.j0] at h, fun _ _ _ _ _ _ _ _ _ _ _ r h => by simp [rillmeterlaw12_SignedTurns.l0] at h, fun _ _ _ _ _ _ _ _ _ _ _ _ _ r h => by simp [rillmeterlaw12_SignedTurns.j2] at h, fun _ _ _ _ _ _ _ _ r h => by simp [rillmeterlaw12_SignedTurns.j3] at h⟩
 | k + 1 => by
  obtain ⟨ih0, ih1, ih2, ih3⟩ := rillmeterlaw12_SignedTurns.mono_l k
  refine ⟨?_, ?_, ?_, ?_⟩
  ·
   intro y0 y1 y2 y3 y4
   unfold rillmeterlaw12_SignedTurns.j0
   repeat' first
   | (with_reducible exact ih0 _ _ _ _ _)
   | (with_reducible exact ih1 _ _ _ _ _ _ _ _ _ _ _)
   | (with_reducible exact ih2 _ _ _ _ _ _ _ _ _ _ _ _ _)
   | (with_reducible exact ih3 _ _ _ _ _ _ _ _)
   | (with_reducible exact rillmeterlaw12_awake.mono _)
   | (with_reducible exact rillmeterref11_Small.mono _ _)
   | (with_reducible exact rillmeterref12_Add.mono _ _ _ _ _)
   | (with_reducible exact rillmeterref12_Cell.mono _ _ _ _ _)
   | (with_reducible exact rillmeterref12_Equal.mono _ _ _ _ _)
   | (with_reducible exact rillmeterref12_Get.mono _ _ _ _)
   | (with_reducible exact rillmeterref12_Right.mono _ _ _)
   | (with_reducible exact signed_Cell.mono _ _ _ _ _)
   | (with_reducible exact signed_Get.mono _ _ _ _)
   | (with_reducible exact LeO.refl _)
   | (with_reducible exact LeO.none _)
   | (with_reducible refine LeO.ite ?_ ?_)
   | (with_reducible refine LeO.bind ?_ (fun _ => ?_))
   | exact ih0 _ _ _ _ _
   | exact ih1 _ _ _ _ _ _ _ _ _ _ _
   | exact ih2 _ _ _ _ _ _ _ _ _ _ _ _ _
   | exact ih3 _ _ _ _ _ _ _ _
   | exact rillmeterlaw12_awake.mono _
   | exact rillmeterref11_Small.mono _ _
   | exact rillmeterref12_Add.mono _ _ _ _ _
   | exact rillmeterref12_Cell.mono _ _ _ _ _
   | exact rillmeterref12_Equal.mono _ _ _ _ _
   | exact rillmeterref12_Get.mono _ _ _ _
   | exact rillmeterref12_Right.mono _ _ _
   | exact signed_Cell.mono _ _ _ _ _
   | exact signed_Get.mono _ _ _ _
   | exact LeO.none _
   | refine LeO.ite ?_ ?_
   | refine LeO.bind ?_ (fun _ => ?_)
  ·
   intro y0 y1 y2 y3 y4 y5 y6 y7 y8 y9 y10
   unfold rillmeterlaw12_SignedTurns.l0
   repeat' first
   | (with_reducible exact ih0 _ _ _ _ _)
   | (with_reducible exact ih1 _ _ _ _ _ _ _ _ _ _ _)
   | (with_reducible exact ih2 _ _ _ _ _ _ _ _ _ _ _ _ _)
   | (with_reducible exact ih3 _ _ _ _ _ _ _ _)
   | (with_reducible exact rillmeterlaw12_awake.mono _)
   | (with_reducible exact rillmeterref11_Small.mono _ _)
   | (with_reducible exact rillmeterref12_Add.mono _ _ _ _ _)
   | (with_reducible exact rillmeterref12_Cell.mono _ _ _ _ _)
   | (with_reducible exact rillmeterref12_Equal.mono _ _ _ _ _)
   | (with_reducible exact rillmeterref12_Get.mono _ _ _ _)
   | (with_reducible exact rillmeterref12_Right.mono _ _ _)
   | (with_reducible exact signed_Cell.mono _ _ _ _ _)
   | (with_reducible exact signed_Get.mono _ _ _ _)
   | (with_reducible exact LeO.refl _)
   | (with_reducible exact LeO.none _)
   | (with_reducible refine LeO.ite ?_ ?_)
   | (with_reducible refine LeO.bind ?_ (fun _ => ?_))
   | exact ih0 _ _ _ _ _
   | exact ih1 _ _ _ _ _ _ _ _ _ _ _
   | exact ih2 _ _ _ _ _ _ _ _ _ _ _ _ _
   | exact ih3 _ _ _ _ _ _ _ _
   | exact rillmeterlaw12_awake.mono _
   | exact rillmeterref11_Small.mono _ _
   | exact rillmeterref12_Add.mono _ _ _ _ _
   | exact rillmeterref12_Cell.mono _ _ _ _ _
   | exact rillmeterref12_Equal.mono _ _ _ _ _
   | exact rillmeterref12_Get.mono _ _ _ _
   | exact rillmeterref12_Right.mono _ _ _
   | exact signed_Cell.mono _ _ _ _ _
   | exact signed_Get.mono _ _ _ _
   | exact LeO.none _
   | refine LeO.ite ?_ ?_
   | refine LeO.bind ?_ (fun _ => ?_)
  ·
   intro y0 y1 y2 y3 y4 y5 y6 y7 y8 y9 y10 y11 y12
   unfold rillmeterlaw12_SignedTurns.j2
   repeat' first
   | (with_reducible exact ih0 _ _ _ _ _)
   | (with_reducible exact ih1 _ _ _ _ _ _ _ _ _ _ _)
   | (with_reducible exact ih2 _ _ _ _ _ _ _ _ _ _ _ _ _)
   | (with_reducible exact ih3 _ _ _ _ _ _ _ _)
   | (with_reducible exact rillmeterlaw12_awake.mono _)
   | (with_reducible exact rillmeterref11_Small.mono _ _)
   | (with_reducible exact rillmeterref12_Add.mono _ _ _ _ _)
   | (with_reducible exact rillmeterref12_Cell.mono _ _ _ _ _)
   | (with_reducible exact rillmeterref12_Equal.mono _ _ _ _ _)
   | (with_reducible exact rillmeterref12_Get.mono _ _ _ _)
   | (with_reducible exact rillmeterref12_Right.mono _ _ _)
   | (with_reducible exact signed_Cell.mono _ _ _ _ _)
   | (with_reducible exact signed_Get.mono _ _ _ _)
   | (with_reducible exact LeO.refl _)
   | (with_reducible exact LeO.none _)
   | (with_reducible refine LeO.ite ?_ ?_)
   | (with_reducible refine LeO.bind ?_ (fun _ => ?_))
   | exact ih0 _ _ _ _ _
   | exact ih1 _ _ _ _ _ _ _ _ _ _ _
   | exact ih2 _ _ _ _ _ _ _ _ _ _ _ _ _
   | exact ih3 _ _ _ _ _ _ _ _
   | exact rillmeterlaw12_awake.mono _
   | exact rillmeterref11_Small.mono _ _
   | exact rillmeterref12_Add.mono _ _ _ _ _
   | exact rillmeterref12_Cell.mono _ _ _ _ _
   | exact rillmeterref12_Equal.mono _ _ _ _ _
   | exact rillmeterref12_Get.mono _ _ _ _
   | exact rillmeterref12_Right.mono _ _ _
   | exact signed_Cell.mono _ _ _ _ _
   | exact signed_Get.mono _ _ _ _
   | exact LeO.none _
   | refine LeO.ite ?_ ?_
   | refine LeO.bind ?_ (fun _ => ?_)
  ·
   intro y0 y1 y2 y3 y4 y5 y6 y7
   unfold rillmeterlaw12_SignedTurns.j3
   repeat' first
   | (with_reducible exact ih0 _ _ _ _ _)
   | (with_reducible exact ih1 _ _ _ _ _ _ _ _ _ _ _)
   | (with_reducible exact ih2 _ _ _ _ _ _ _ _ _ _ _ _ _)
   | (with_reducible exact ih3 _ _ _ _ _ _ _ _)
   | (with_reducible exact rillmeterlaw12_awake.mono _)
   | (with_reducible exact rillmeterref11_Small.mono _ _)
   | (with_reducible exact rillmeterref12_Add.mono _ _ _ _ _)
   | (with_reducible exact rillmeterref12_Cell.mono _ _ _ _ _)
   | (with_reducible exact rillmeterref12_Equal.mono _ _ _ _ _)
   | (with_reducible exact rillmeterref12_Get.mono _ _ _ _)
   | (with_reducible exact rillmeterref12_Right.mono _ _ _)
   | (with_reducible exact signed_Cell.mono _ _ _ _ _)
   | (with_reducible exact signed_Get.mono _ _ _ _)
   | (with_reducible exact LeO.refl _)
   | (with_reducible exact LeO.none _)
   | (with_reducible refine LeO.ite ?_ ?_)
   | (with_reducible refine LeO.bind ?_ (fun _ => ?_))
   | exact ih0 _ _ _ _ _
   | exact ih1 _ _ _ _ _ _ _ _ _ _ _
   | exact ih2 _ _ _ _ _ _ _ _ _ _ _ _ _
   | exact ih3 _ _ _ _ _ _ _ _
   | exact rillmeterlaw12_awake.mono _
   | exact rillmeterref11_Small.mono _ _
   | exact rillmeterref12_Add.mono _ _ _ _ _
   | exact rillmeterref12_Cell.mono _ _ _ _ _
   | exact rillmeterref12_Equal.mono _ _ _ _ _
   | exact rillmeterref12_Get.mono _ _ _ _
   | exact rillmeterref12_Right.mono _ _ _
   | exact signed_Cell.mono _ _ _ _ _
   | exact signed_Get.mono _ _ _ _
   | exact LeO.none _
   | refine LeO.ite ?_ ?_
   | refine LeO.bind ?_ (fun _ => ?_)
theorem rillmeterlaw12_SignedTurns.mono : ∀ a0 a1 a2 a3 k, LeO (rillmeterlaw12_SignedTurns.f k a0 a1 a2 a3) (rillmeterlaw12_SignedTurns.f (k + 1) a0 a1 a2 a3) := by
 intro a0 a1 a2 a3 k
 obtain ⟨ih0, ih1, ih2, ih3⟩ := rillmeterlaw12_SignedTurns.mono_l k
 unfold rillmeterlaw12_SignedTurns.f
 repeat' first
   | (with_reducible exact ih0 _ _ _ _ _)
   | (with_reducible exact ih1 _ _ _ _ _ _ _ _ _ _ _)
   | (with_reducible exact ih2 _ _ _ _ _ _ _ _ _ _ _ _ _)
   | (with_reducible exact ih3 _ _ _ _ _ _ _ _)
   | (with_reducible exact rillmeterlaw12_awake.mono _)
   | (with_reducible exact rillmeterref11_Small.mono _ _)
   | (with_reducible exact rillmeterref12_Add.mono _ _ _ _ _)
   | (with_reducible exact rillmeterref12_Cell.mono _ _ _ _ _)
   | (with_reducible exact rillmeterref12_Equal.mono _ _ _ _ _)
   | (with_reducible exact rillmeterref12_Get.mono _ _ _ _)
   | (with_reducible exact rillmeterref12_Right.mono _ _ _)
   | (with_reducible exact signed_Cell.mono _ _ _ _ _)
   | (with_reducible exact signed_Get.mono _ _ _ _)
   | (with_reducible exact LeO.refl _)
   | (with_reducible exact LeO.none _)
   | (with_reducible refine LeO.ite ?_ ?_)
   | (with_reducible refine LeO.bind ?_ (fun _ => ?_))
   | exact ih0 _ _ _ _ _
   | exact ih1 _ _ _ _ _ _ _ _ _ _ _
   | exact ih2 _ _ _ _ _ _ _ _ _ _ _ _ _
   | exact ih3 _ _ _ _ _ _ _ _
   | exact rillmeterlaw12_awake.mono _
   | exact rillmeterref11_Small.mono _ _
   | exact rillmeterref12_Add.mono _ _ _ _ _
   | exact rillmeterref12_Cell.mono _ _ _ _ _
   | exact rillmeterref12_Equal.mono _ _ _ _ _
   | exact rillmeterref12_Get.mono _ _ _ _
   | exact rillmeterref12_Right.mono _ _ _
   | exact signed_Cell.mono _ _ _ _ _
   | exact signed_Get.mono _ _ _ _
   | exact LeO.none _
   | refine LeO.ite ?_ ?_
   | refine LeO.bind ?_ (fun _ => ?_)
def rillmeterlaw12_SignedTurns.T13 : Bool × List (List Nat × List Nat) := (true, [([], []), ([0], [0]), ([], []), ([], []), ([], []), ([4], [4]), ([], []), ([5, 6], [5, 6]), ([7], [7]), ([8], [8]), ([1, 2, 3, 9], [1, 2, 3, 9]), ([10, 10, 0, 1, 2, 3, 4, 5, 6, 7, 8, 9, 10], [10])])
def rillmeterlaw12_SignedTurns.B13 : List Nat := [0, 1, 0, 0, 0, 16, 0, 112, 240, 496, 1023, 2047]
theorem rillmeterlaw12_SignedTurns.tab13 : rtab .any (opsOf Try.f5 13) = rillmeterlaw12_SignedTurns.T13 := by kernel_rfl
theorem rillmeterlaw12_SignedTurns.bits13 : waitsOk rillmeterlaw12_SignedTurns.T13.2 rillmeterlaw12_SignedTurns.B13 = true := by kernel_rfl
def rillmeterlaw12_SignedTurns.T23 : Bool × List (List Nat × List Nat) := (true, [([], []), ([0], [0]), ([1], [1]), ([2], [2]), ([3, 2, 2], [2, 3]), ([2], [2]), ([4, 5, 4, 2], [2, 4, 5]), ([2, 6], [2, 6]), ([7, 6], [7]), ([8, 8], [8]), ([8, 9], [8, 9]), ([10, 9, 0, 1, 2, 3, 4, 5, 6, 7, 8, 9, 10], [10])])
def rillmeterlaw12_SignedTurns.B23 : List Nat := [0, 1, 3, 7, 15, 7, 63, 127, 255, 511, 1023, 2047]
theorem rillmeterlaw12_SignedTurns.tab23 : rtab .any (opsOf Try.f5 23) = rillmeterlaw12_SignedTurns.T23 := by kernel_rfl
theorem rillmeterlaw12_SignedTurns.bits23 : waitsOk rillmeterlaw12_SignedTurns.T23.2 rillmeterlaw12_SignedTurns.B23 = true := by kernel_rfl
set_option maxHeartbeats 8000000 in
set_option maxRecDepth 100000 in
theorem rillmeterlaw12_SignedTurns.calls (k : Nat) (a0_0 : Int) (A0_1 : Option Addr) (c0_1 : Nat) (l0_1 : List (List Int)) (a1 : ByteArray) (a2 : Int) (r : Bool) (w : World) (hr0_1 : Kd.C (Kd.slice 3 (Kd.int .i64)) w A0_1 l0_1.length l0_1) (hc0_1 : l0_1.length ≤ c0_1) (h : rillmeterlaw12_SignedTurns.f k a0_0 l0_1 a1 a2 = some r) :
  Calls Try.prog 5 #[.agg #[.int .u64 a0_0, .slice A0_1 l0_1.length c0_1], .string a1, .int .i64 a2] w fun e w' => e = .returned (.bool r) ∧ Below w.heap.size w w' := by
 have hu25 := Try.underlying25
 have hu30 := Try.underlying30
 have HR0_1 := Aside0.mk hr0_1
 have HC0_1 := Aside0.mk hc0_1
 clear hr0_1 hc0_1
 have HB := Aside0.mk (Below.refl w.heap.size w)
 have H : ((rillmeterref11_Small.f k l0_1).bind fun t327 => (if t327 = true then (rillmeterlaw12_SignedTurns.j0 k a1 a2 (decide ((a1.size : Int) > 100)) a0_0 l0_1) else (rillmeterlaw12_SignedTurns.j0 k a1 a2 true a0_0 l0_1))) = some r := h
 clear h
 have HC4 := Aside0.mk H
 clear H
 go_enter Try.func5, Try.ntmps5
 go_upto_region 1 with (first | ((with_reducible refine gate_dst (N := 3) rfl ?_); (try (refine gate_guard (by rfl) ?_; dsimp only)); refine box_event ?hg (N := 3) ?hd (cs := #[.int .u64 a0_0, .slice A0_1 l0_1.length c0_1]) (t := 25) ?hr ?_; (case hd => rfl); (case hg => rfl); (case hr => first | (go_simp; done) | (go_simp; rfl)); intro gb326 hg w5 hbox hb; have BK326 := Aside0.mk (hbox); have GW326 := geN HB hg; have GE326 := geN HB hg; replace HB := stB HB hb; clear hb hbox hg))
 (try simp only [Act.put, List.setIfInBounds_toArray, List.set_cons_zero, List.set_cons_succ])
 go_cut [23] (fun v23 wc => ∃ (kq : Nat) (x23_3 : Bool), v23 = .bool x23_3 ∧ Aside0 (rillmeterlaw12_SignedTurns.j0 kq a1 a2 x23_3 a0_0 l0_1 = some r) ∧ Aside0 (kq ≤ k) ∧ Aside0 (wc.heap[gb326]? = some (.cells #[.int .u64 a0_0, (.slice A0_1 l0_1.length c0_1)] 25 (0, 0))) ∧ Aside0 (Below w.heap.size w wc))
 case first =>
  have H := HC4.out
  clear HC4
  replace H := Option.bind_eq_some_iff.mp H
  obtain ⟨t327, A60, H⟩ := H
  replace H : (if t327 = true then (rillmeterlaw12_SignedTurns.j0 k a1 a2 (decide ((a1.size : Int) > 100)) a0_0 l0_1) else (rillmeterlaw12_SignedTurns.j0 k a1 a2 true a0_0 l0_1)) = some r := H
  have A6 := Aside0.mk A60
  clear A60
  by_cases c7 : t327 = true
  ·
   subst c7
   have H1 : (rillmeterlaw12_SignedTurns.j0 k a1 a2 (decide ((a1.size : Int) > 100)) a0_0 l0_1) = some r := by rw [if_pos rfl] at H; exact H
   clear H
   have H := H1
   clear H1
   have H' := Aside0.mk H
   clear H
   have hcz8_0 : w5.cell? ⟨gb326, 0, none⟩ = some (.int .u64 a0_0) := (blk_cell BK326.out 0).trans rfl
   have hcz8_1 : w5.cell? ⟨gb326, 1, none⟩ = some (.slice A0_1 l0_1.length c0_1) := (blk_cell BK326.out 1).trans rfl
   have hfz8_0 := blk_frozen BK326.out 0
   have hfz8_1 := blk_frozen BK326.out 1
   go_wp2_with (first | ((with_reducible refine gate_callee (f := 14) rfl ?_); refine goesM_ (some 17) Try.func14 #[.slice A0_1 l0_1.length c0_1] ?_; (with_reducible refine (rillmeterref11_Small.calls k _ _ l0_1 true _ ?side1 ?side2 A6.out).mono ?_); (case side1 => repeat (first | exact (Kd.C_below HR0_1.out HB.out) | (with_reducible refine Kd.C_alloc ?_ _) | (with_reducible refine Kd.C_drewN ?_ _) | (with_reducible refine Kd.C_drew ?_))); (case side2 => exact HC0_1.out); rintro e w' ⟨rfl, ⟨nd, rfl⟩⟩; refine ⟨_, rfl, ?_⟩))
   go_meet
   case rel => exact ⟨_, (decide ((a1.size : Int) > 100)), (by first | rfl | (simp; done) | (simp [*]; done)), H', ⟨by first | omega | exact Nat.le_refl _⟩, ⟨pB BK326⟩, ⟨pH HB⟩⟩
  ·
   replace c7 := Bool.eq_false_iff.mpr c7
   subst c7
   have H1 : (rillmeterlaw12_SignedTurns.j0 k a1 a2 true a0_0 l0_1) = some r := by rw [if_neg (show ¬ (false = true) by decide)] at H; exact H
   clear H
   have H := H1
   clear H1
   have H' := Aside0.mk H
   clear H
   have hcz9_0 : w5.cell? ⟨gb326, 0, none⟩ = some (.int .u64 a0_0) := (blk_cell BK326.out 0).trans rfl
   have hcz9_1 : w5.cell? ⟨gb326, 1, none⟩ = some (.slice A0_1 l0_1.length c0_1) := (blk_cell BK326.out 1).trans rfl
   have hfz9_0 := blk_frozen BK326.out 0
   have hfz9_1 := blk_frozen BK326.out 1
   go_wp2_with (first | ((with_reducible refine gate_callee (f := 14) rfl ?_); refine goesM_ (some 17) Try.func14 #[.slice A0_1 l0_1.length c0_1] ?_; (with_reducible refine (rillmeterref11_Small.calls k _ _ l0_1 false _ ?side1 ?side2 A6.out).mono ?_); (case side1 => repeat (first | exact (Kd.C_below HR0_1.out HB.out) | (with_reducible refine Kd.C_alloc ?_ _) | (with_reducible refine Kd.C_drewN ?_ _) | (with_reducible refine Kd.C_drew ?_))); (case side2 => exact HC0_1.out); rintro e w' ⟨rfl, ⟨nd, rfl⟩⟩; refine ⟨_, rfl, ?_⟩))
   go_meet
   case rel => exact ⟨_, (true), (by first | rfl | (simp; done) | (simp [*]; done)), H', ⟨by first | omega | exact Nat.le_refl _⟩, ⟨pB BK326⟩, ⟨pH HB⟩⟩
 case rest =>
  clear HC4
  try clear c1
  try clear p2
  try clear c5
  try clear c7
  try clear hcz8_0
  try clear hcz8_1
  try clear hcz9_0
  try clear hcz9_1
  try clear hfz8_0
  try clear hfz8_1
  try clear hfz9_0
  try clear hfz9_1
  obtain ⟨kq, x23_3, rfl, HA, HJ3, BK326, HB⟩ := hcut
  cases kq with
  | zero => exact absurd HA.out (by simp [rillmeterlaw12_SignedTurns.j0])
  | succ kj3 =>
   have H := HA.out
   clear HA
   simp only [rillmeterlaw12_SignedTurns.j0] at H
   by_cases c10 : x23_3 = true
   ·
    subst c10
    have H1 : ((rillmeterlaw12_awake.f kj3).bind fun t328 => (some t328)) = some r := by rw [if_pos rfl] at H; exact H
    clear H
    have H := H1
    clear H1
    replace H := Option.bind_eq_some_iff.mp H
    obtain ⟨t328, A110, H⟩ := H
    replace H : (some t328) = some r := H
    have A11 := Aside0.mk A110
    clear A110
    obtain rfl := Option.some.inj H
    go_wp2_with (first | ((with_reducible refine gate_callee (f := 12) rfl ?_); refine goesM_ (some 24) Try.func12 #[] ?_; (with_reducible refine (rillmeterlaw12_awake.calls kj3  t328 _ A11.out).mono ?_); rintro e w12 ⟨rfl, hb⟩; refine ⟨_, rfl, ?_⟩; replace BK326 := bB BK326 hb; replace HB := stB HB hb; (try clear hb); (try clear hb2); (try clear hk); (try clear hi)))
    go_ret
    exact ⟨by first | rfl | (simp [errW_none, errW_some] <;> rfl) | (simp [*, errW_none, errW_some] <;> rfl), by repeat (first | (with_reducible first | exact HB.out | apply below_alloc | apply pw_below_drewN | apply below_drew1 | refine below_set ?_ GE326.out) | exact HB.out)⟩
   ·
    replace c10 := Bool.eq_false_iff.mpr c10
    subst c10
    have H1 : ((rillmeterlaw12_ref.f a0_0 l0_1).bind fun bt329 => ((signed_Add.f a0_0 l0_1 a1 a2).bind fun bt334 => ((signed_Get.f kj3 a0_0 l0_1 a1).bind fun t340 => ((rillmeterref12_Right.f kj3 bt329.1 bt329.2).bind fun t341 => (if t341 = true then (rillmeterlaw12_SignedTurns.l0 kj3 a1 a2 bt334.2.2 t340 (-1) a0_0 l0_1 bt329.1 bt329.2 bt334.1 bt334.2.1) else ((signed_Right.f a0_0 l0_1).bind fun t342 => (if t342 = true then (some false) else (if bt334.2.2 = 1 then (if (bt334.2.1.length : Int) = 0 then (if t340 = 0 then ((signed_Cell.f kj3 a0_0 l0_1 a1 0).bind fun t343 => (if t343 = 0 then ((rillmeterlaw12_awake.f kj3).bind fun t344 => (some t344)) else (some false))) else (some false)) else (some false)) else (some false))))))))) = some r := by rw [if_neg (show ¬ (false = true) by decide)] at H; exact H
    clear H
    have H := H1
    clear H1
    replace H := Option.bind_eq_some_iff.mp H
    obtain ⟨⟨t329, t330⟩, A130, H⟩ := H
    replace H : ((signed_Add.f a0_0 l0_1 a1 a2).bind fun bt334 => ((signed_Get.f kj3 a0_0 l0_1 a1).bind fun t340 => ((rillmeterref12_Right.f kj3 t329 t330).bind fun t341 => (if t341 = true then (rillmeterlaw12_SignedTurns.l0 kj3 a1 a2 bt334.2.2 t340 (-1) a0_0 l0_1 t329 t330 bt334.1 bt334.2.1) else ((signed_Right.f a0_0 l0_1).bind fun t342 => (if t342 = true then (some false) else (if bt334.2.2 = 1 then (if (bt334.2.1.length : Int) = 0 then (if t340 = 0 then ((signed_Cell.f kj3 a0_0 l0_1 a1 0).bind fun t343 => (if t343 = 0 then ((rillmeterlaw12_awake.f kj3).bind fun t344 => (some t344)) else (some false))) else (some false)) else (some false)) else (some false)))))))) = some r := H
    have A13 := Aside0.mk A130
    clear A130
    replace H := Option.bind_eq_some_iff.mp H
    obtain ⟨⟨t334, t335, t338⟩, A140, H⟩ := H
    replace H : ((signed_Get.f kj3 a0_0 l0_1 a1).bind fun t340 => ((rillmeterref12_Right.f kj3 t329 t330).bind fun t341 => (if t341 = true then (rillmeterlaw12_SignedTurns.l0 kj3 a1 a2 t338 t340 (-1) a0_0 l0_1 t329 t330 t334 t335) else ((signed_Right.f a0_0 l0_1).bind fun t342 => (if t342 = true then (some false) else (if t338 = 1 then (if (t335.length : Int) = 0 then (if t340 = 0 then ((signed_Cell.f kj3 a0_0 l0_1 a1 0).bind fun t343 => (if t343 = 0 then ((rillmeterlaw12_awake.f kj3).bind fun t344 => (some t344)) else (some false))) else (some false)) else (some false)) else (some false))))))) = some r := H
    have A14 := Aside0.mk A140
    clear A140
    replace H := Option.bind_eq_some_iff.mp H
    obtain ⟨t340, A150, H⟩ := H
    replace H : ((rillmeterref12_Right.f kj3 t329 t330).bind fun t341 => (if t341 = true then (rillmeterlaw12_SignedTurns.l0 kj3 a1 a2 t338 t340 (-1) a0_0 l0_1 t329 t330 t334 t335) else ((signed_Right.f a0_0 l0_1).bind fun t342 => (if t342 = true then (some false) else (if t338 = 1 then (if (t335.length : Int) = 0 then (if t340 = 0 then ((signed_Cell.f kj3 a0_0 l0_1 a1 0).bind fun t343 => (if t343 = 0 then ((rillmeterlaw12_awake.f kj3).bind fun t344 => (some t344)) else (some false))) else (some false)) else (some false)) else (some false)))))) = some r := H
    have A15 := Aside0.mk A150
    clear A150
    replace H := Option.bind_eq_some_iff.mp H
    obtain ⟨t341, A160, H⟩ := H
    replace H : (if t341 = true then (rillmeterlaw12_SignedTurns.l0 kj3 a1 a2 t338 t340 (-1) a0_0 l0_1 t329 t330 t334 t335) else ((signed_Right.f a0_0 l0_1).bind fun t342 => (if t342 = true then (some false) else (if t338 = 1 then (if (t335.length : Int) = 0 then (if t340 = 0 then ((signed_Cell.f kj3 a0_0 l0_1 a1 0).bind fun t343 => (if t343 = 0 then ((rillmeterlaw12_awake.f kj3).bind fun t344 => (some t344)) else (some false))) else (some false)) else (some false)) else (some false))))) = some r := H
    have A16 := Aside0.mk A160
    clear A160
    by_cases c17 : t341 = true
    ·
     subst c17
     have H1 : (rillmeterlaw12_SignedTurns.l0 kj3 a1 a2 t338 t340 (-1) a0_0 l0_1 t329 t330 t334 t335) = some r := by rw [if_pos rfl] at H; exact H
     clear H
     have H := H1
     clear H1
     have H' := Aside0.mk H
     clear H
     have hcz18_0 : wc.cell? ⟨gb326, 0, none⟩ = some (.int .u64 a0_0) := (blk_cell BK326.out 0).trans rfl
     have hcz18_1 : wc.cell? ⟨gb326, 1, none⟩ = some (.slice A0_1 l0_1.length c0_1) := (blk_cell BK326.out 1).trans rfl
     have hfz18_0 := blk_frozen BK326.out 0
     have hfz18_1 := blk_frozen BK326.out 1
     go_wp2_with (first | ((with_reducible refine gate_callee (f := 11) rfl ?_); refine goesM_ (some 26) Try.func11 #[.agg #[.int .u64 a0_0, .slice A0_1 l0_1.length c0_1]] ?_; (with_reducible refine (rillmeterlaw12_ref.calls a0_0 (fun k_ => k_ < w.heap.size) _ _ l0_1 t329 t330 _ ?side1 A13.out).mono ?_); (case side1 => exact Kd.V_mk HC0_1.out (Kd.F_below (Kd.C_F (Kd.heap_slice 3 (Kd.heap_int .i64)) HR0_1.out) (pH HB))); rintro e w19 ⟨v331, rfl, ho0, hb⟩; refine ⟨_, rfl, ?_⟩; have HO332 := Aside0.mk (Kd.V_lower (Kd.V_mono (ok' := fun k_ => k_ ≠ gb326) ho0 (fun k_ hk_ => Or.elim hk_ (fun hs_ => fun e_ => Nat.not_le.2 hs_ (by rw [e_]; exact GW326.out)) (fun hn_ => (Kd.freshB (g := gb326) (o := .cells #[.int .u64 a0_0, .slice A0_1 l0_1.length c0_1] 25 (0, 0)) (pB BK326) k_ hn_)))) (below_size (pH HB))); replace BK326 := bB BK326 hb; replace HB := stB HB hb; (try clear hb); (try clear hb2); (try clear hk); (try clear hi); (try clear ho0)) | ((with_reducible refine gate_dst (N := 7) rfl ?_); (try (refine gate_guard (by rfl) ?_; dsimp only)); refine box_event ?hg (N := 7) ?hd (cs := #[.int .u64 0, .slice none 0 0]) (t := 30) ?hr ?_; (case hd => rfl); (case hg => rfl); (case hr => first | (go_simp; done) | (go_simp; rfl)); intro gb333 hg w20 hbox hb; have BK333 := Aside0.mk (hbox); have GW333 := geN HB hg; have GE333 := geN HB hg; have NB326_333 := neL BK326 hg; have NB333_326 := neG BK326 hg; replace HO332 := Aside0.mk (Kd.V_below (Kd.V_elderB (pV HO332) gb333 (Nat.le_of_eq hg.symm)) hb); replace BK326 := bB BK326 hb; replace HB := stB HB hb; clear hb hbox hg; have hnb21 := NB333_326.out; have hnc21 := NB326_333.out; have hcz22_0 : w20.cell? ⟨gb333, 0, none⟩ = some (.int .u64 0) := (blk_cell BK333.out 0).trans rfl; have hcz22_1 : w20.cell? ⟨gb333, 1, none⟩ = some (.slice none 0 0) := (blk_cell BK333.out 1).trans rfl; have hfz22_0 := blk_frozen BK333.out 0; have hfz22_1 := blk_frozen BK333.out 1; obtain ⟨Ao23, co23, eo23⟩ := Kd.V_slice HO332.out; subst eo23; have hcz24_0 : w20.cell? ⟨gb326, 0, none⟩ = some (.int .u64 a0_0) := (blk_cell BK326.out 0).trans rfl; have hcz24_1 : w20.cell? ⟨gb326, 1, none⟩ = some (.slice A0_1 l0_1.length c0_1) := (blk_cell BK326.out 1).trans rfl; have hfz24_0 := blk_frozen BK326.out 0; have hfz24_1 := blk_frozen BK326.out 1) | ((with_reducible refine gate_callee (f := 15) rfl ?_); refine goesM_ (some 31) Try.func15 #[.agg #[.int .u64 a0_0, .slice A0_1 l0_1.length c0_1], .string a1, .int .i64 a2] ?_; (with_reducible refine (signed_Add.calls a0_0 _ _ l0_1 a1 a2 t334 t335 t338 _ ?side1 ?side2 A14.out).mono ?_); (case side1 => exact Kd.C_below HR0_1.out (pH HB)); (case side2 => exact HC0_1.out); rintro e w25 ⟨v336, rfl, ho0, hb⟩; refine ⟨_, rfl, ?_⟩; have HO337 := Aside0.mk (Kd.S_lower ho0 (below_size (pH HB))); replace HO332 := Aside0.mk (Kd.V_elder' (by (with_reducible repeat (first | apply Kd.V_alloc | apply Kd.V_drewN | apply Kd.V_drew)); exact (Kd.V_mono (Kd.V_far (p := ⟨gb333, 1, none⟩) (Kd.V_far (p := ⟨gb333, 0, none⟩) (Kd.V_mono HO332.out (fun k_ hk => (⟨hk, hk.2⟩ : _ ∧ k_ ≠ gb333))) (fun _ hk => hk.2) (.int .u64 t329)) (fun _ hk => hk.2) (.slice Ao23 t330.length co23)) (fun _ h_ => h_.1))) (Kd.S_base ho0) hb); replace BK326 := Aside0.mk (blk_below (g := gb326) (o := .cells #[.int .u64 a0_0, .slice A0_1 l0_1.length c0_1] 25 (0, 0)) (by (with_reducible repeat (first | refine blk_drewN ?_ _ | refine blk_drew ?_ | refine blk_alloc ?_ _)); refine blk_far ?_ NB326_333.out _; (with_reducible repeat (first | refine blk_drewN ?_ _ | refine blk_drew ?_ | refine blk_alloc ?_ _)); refine blk_far ?_ NB326_333.out _; (with_reducible repeat (first | refine blk_drewN ?_ _ | refine blk_drew ?_ | refine blk_alloc ?_ _)); exact BK326.out) hb); replace BK333 := Aside0.mk (blk_below (g := gb333) (o := .cells #[.int .u64 t329, .slice Ao23 t330.length co23] 30 (0, 0)) (by (with_reducible repeat (first | refine blk_drewN ?_ _ | refine blk_drew ?_ | refine blk_alloc ?_ _)); refine blk_put (cs := #[.int .u64 t329, .slice none 0 0]) ?_ 1 _ rfl; (with_reducible repeat (first | refine blk_drewN ?_ _ | refine blk_drew ?_ | refine blk_alloc ?_ _)); refine blk_put (cs := #[.int .u64 0, .slice none 0 0]) ?_ 0 _ rfl; (with_reducible repeat (first | refine blk_drewN ?_ _ | refine blk_drew ?_ | refine blk_alloc ?_ _)); exact BK333.out) hb); replace HB := stB HB hb; (try clear hb); (try clear hb2); (try clear hk); (try clear hi); (try clear ho0)) | ((with_reducible refine gate_dst (N := 8) rfl ?_); (try (refine gate_guard (by rfl) ?_; dsimp only)); refine box_event ?hg (N := 8) ?hd (cs := #[.int .u64 0, .slice none 0 0]) (t := 25) ?hr ?_; (case hd => rfl); (case hg => rfl); (case hr => first | (go_simp; done) | (go_simp; rfl)); intro gb339 hg w26 hbox hb; have BK339 := Aside0.mk (hbox); have GW339 := geN HB hg; have GE339 := geN HB hg; have NB326_339 := neL BK326 hg; have NB339_326 := neG BK326 hg; have NB333_339 := neL BK333 hg; have NB339_333 := neG BK333 hg; replace HO332 := Aside0.mk (Kd.V_below (Kd.V_elderB (pV HO332) gb339 (Nat.le_of_eq hg.symm)) hb); replace HO337 := Aside0.mk (Kd.S_below (pS HO337) hb); replace BK326 := bB BK326 hb; replace BK333 := bB BK333 hb; replace HB := stB HB hb; clear hb hbox hg; have hnb27 := NB339_326.out; have hnc27 := NB326_339.out; have hnb28 := NB339_333.out; have hnc28 := NB333_339.out; have hcz29_0 : w26.cell? ⟨gb339, 0, none⟩ = some (.int .u64 0) := (blk_cell BK339.out 0).trans rfl; have hcz29_1 : w26.cell? ⟨gb339, 1, none⟩ = some (.slice none 0 0) := (blk_cell BK339.out 1).trans rfl; have hfz29_0 := blk_frozen BK339.out 0; have hfz29_1 := blk_frozen BK339.out 1; obtain ⟨Ao30, co30, eo30⟩ := Kd.S_slice HO337.out; subst eo30; have hcz31_0 : w26.cell? ⟨gb326, 0, none⟩ = some (.int .u64 a0_0) := (blk_cell BK326.out 0).trans rfl; have hcz31_1 : w26.cell? ⟨gb326, 1, none⟩ = some (.slice A0_1 l0_1.length c0_1) := (blk_cell BK326.out 1).trans rfl; have hfz31_0 := blk_frozen BK326.out 0; have hfz31_1 := blk_frozen BK326.out 1) | ((with_reducible refine gate_callee (f := 16) rfl ?_); refine goesM_ (some 36) Try.func16 #[.agg #[.int .u64 a0_0, .slice A0_1 l0_1.length c0_1], .string a1] ?_; (with_reducible refine (signed_Get.calls kj3 a0_0 _ _ l0_1 a1 t340 _ ?side1 ?side2 A15.out).mono ?_); (case side1 => exact Kd.C_below HR0_1.out (pH HB)); (case side2 => exact HC0_1.out); rintro e w32 ⟨rfl, hb⟩; refine ⟨_, rfl, ?_⟩; replace HO332 := Aside0.mk (Kd.V_below (by (with_reducible repeat (first | apply Kd.V_alloc | apply Kd.V_drewN | apply Kd.V_drew)); exact (Kd.V_mono (Kd.V_far (p := ⟨gb339, 1, none⟩) (Kd.V_far (p := ⟨gb339, 0, none⟩) (Kd.V_mono HO332.out (fun k_ hk => (⟨hk, hk.2⟩ : _ ∧ k_ ≠ gb339))) (fun _ hk => hk.2) (.int .u64 t334)) (fun _ hk => hk.2) (.slice Ao30 t335.length co30)) (fun _ h_ => h_.1))) hb); replace HO337 := Aside0.mk (Kd.S_below (by (with_reducible repeat (first | apply Kd.S_alloc | apply Kd.S_drewN | apply Kd.S_drew)); exact (Kd.S_mono (Kd.S_far (p := ⟨gb339, 1, none⟩) (Kd.S_far (p := ⟨gb339, 0, none⟩) (Kd.S_types HO337.out BK339.out (by decide)) (fun _ hk => hk.2) (.int .u64 t334)) (fun _ hk => hk.2) (.slice Ao30 t335.length co30)) (fun _ h_ => h_.1))) hb); replace BK326 := Aside0.mk (blk_below (g := gb326) (o := .cells #[.int .u64 a0_0, .slice A0_1 l0_1.length c0_1] 25 (0, 0)) (by (with_reducible repeat (first | refine blk_drewN ?_ _ | refine blk_drew ?_ | refine blk_alloc ?_ _)); refine blk_far ?_ NB326_339.out _; (with_reducible repeat (first | refine blk_drewN ?_ _ | refine blk_drew ?_ | refine blk_alloc ?_ _)); refine blk_far ?_ NB326_339.out _; (with_reducible repeat (first | refine blk_drewN ?_ _ | refine blk_drew ?_ | refine blk_alloc ?_ _)); exact BK326.out) hb); replace BK333 := Aside0.mk (blk_below (g := gb333) (o := .cells #[.int .u64 t329, .slice Ao23 t330.length co23] 30 (0, 0)) (by (with_reducible repeat (first | refine blk_drewN ?_ _ | refine blk_drew ?_ | refine blk_alloc ?_ _)); refine blk_far ?_ NB333_339.out _; (with_reducible repeat (first | refine blk_drewN ?_ _ | refine blk_drew ?_ | refine blk_alloc ?_ _)); refine blk_far ?_ NB333_339.out _; (with_reducible repeat (first | refine blk_drewN ?_ _ | refine blk_drew ?_ | refine blk_alloc ?_ _)); exact BK333.out) hb); replace BK339 := Aside0.mk (blk_below (g := gb339) (o := .cells #[.int .u64 t334, .slice Ao30 t335.length co30] 25 (0, 0)) (by (with_reducible repeat (first | refine blk_drewN ?_ _ | refine blk_drew ?_ | refine blk_alloc ?_ _)); refine blk_put (cs := #[.int .u64 t334, .slice none 0 0]) ?_ 1 _ rfl; (with_reducible repeat (first | refine blk_drewN ?_ _ | refine blk_drew ?_ | refine blk_alloc ?_ _)); refine blk_put (cs := #[.int .u64 0, .slice none 0 0]) ?_ 0 _ rfl; (with_reducible repeat (first | refine blk_drewN ?_ _ | refine blk_drew ?_ | refine blk_alloc ?_ _)); exact BK339.out) hb); replace HB := stB HB hb; (try clear hb); (try clear hb2); (try clear hk); (try clear hi); have hcz33_0 : w32.cell? ⟨gb333, 0, none⟩ = some (.int .u64 t329) := (blk_cell BK333.out 0).trans rfl; have hcz33_1 : w32.cell? ⟨gb333, 1, none⟩ = some (.slice Ao23 t330.length co23) := (blk_cell BK333.out 1).trans rfl; have hfz33_0 := blk_frozen BK333.out 0; have hfz33_1 := blk_frozen BK333.out 1) | ((with_reducible refine gate_callee (f := 13) rfl ?_); refine goesM_ (some 38) Try.func13 #[.agg #[.int .u64 t329, .slice Ao23 t330.length co23]] ?_; (with_reducible refine (rillmeterref12_Right.calls kj3 t329 _ _ t330 true _ ?side1 ?side2 A16.out).mono ?_); (case side1 => repeat (first | exact (Kd.V_reads' HO332.out).2.2 | (with_reducible refine Kd.C_alloc ?_ _) | (with_reducible refine Kd.C_drewN ?_ _) | (with_reducible refine Kd.C_drew ?_))); (case side2 => exact (Kd.V_reads' HO332.out).2.1); rintro e w34 ⟨rfl, hb⟩; refine ⟨_, rfl, ?_⟩; replace HO332 := Aside0.mk (Kd.V_below (pV HO332) hb); replace HO337 := Aside0.mk (Kd.S_below (pS HO337) hb); replace BK326 := bB BK326 hb; replace BK333 := bB BK333 hb; replace BK339 := bB BK339 hb; replace HB := stB HB hb; (try clear hb); (try clear hb2); (try clear hk); (try clear hi)))
     go_loopg [11] kj3 (fun kq v11 w' => ∃ (x11_2 : Int), v11 = .int .i64 x11_2 ∧ Aside0 (rillmeterlaw12_SignedTurns.l0 kq a1 a2 t338 t340 x11_2 a0_0 l0_1 t329 t330 t334 t335 = some r) ∧ Aside0 (kq ≤ kj3) ∧ Aside0 (Kd.V (Kd.slice 3 (Kd.int .i64)) 33 w' w.heap.size (fun k_ => some k_ ≠ ((.slice Ao30 t335.length co30) : Value).ownBlock ∧ k_ ≠ gb326 ∧ k_ ≠ gb333 ∧ k_ ≠ gb339) (.slice Ao23 t330.length co23) t330) ∧ Aside0 (Kd.S (Kd.slice 3 (Kd.int .i64)) 33 w' w.heap.size (fun _ => True) (.slice Ao30 t335.length co30) t335) ∧ Aside0 (w'.heap[gb326]? = some (.cells #[.int .u64 a0_0, (.slice A0_1 l0_1.length c0_1)] 25 (0, 0))) ∧ Aside0 (w'.heap[gb333]? = some (.cells #[.int .u64 t329, (.slice Ao23 t330.length co23)] 30 (0, 0))) ∧ Aside0 (w'.heap[gb339]? = some (.cells #[.int .u64 t334, (.slice Ao30 t335.length co30)] 25 (0, 0))) ∧ Aside0 (Below w.heap.size w w'))
     case atStart => exact ⟨((-1)), (by first | rfl | (simp; done) | (simp [*]; done)), H', ⟨Nat.le_refl _⟩, ⟨by (with_reducible repeat (first | apply Kd.V_alloc | apply Kd.V_drewN | apply Kd.V_drew)); exact Kd.V_mono HO332.out (fun _ hk => ⟨hk.1.2, ⟨hk.1.1.1, ⟨hk.1.1.2, hk.2⟩⟩⟩)⟩, ⟨pS HO337⟩, ⟨pB BK326⟩, ⟨pB BK333⟩, ⟨pB BK339⟩, ⟨pH HB⟩⟩
     case round =>
      clear H'
      try clear c1
      try clear c2
      try clear p2
      try clear c5
      try clear c7
      try clear c10
      try clear c11
      try clear c12
      try clear c13
      try clear c14
      try clear c15
      try clear c16
      try clear c17
      try clear c21
      try clear c27
      try clear c28
      try clear hcz18_0
      try clear hcz18_1
      try clear hcz22_0
      try clear hcz22_1
      try clear hcz24_0
      try clear hcz24_1
      try clear hcz29_0
      try clear hcz29_1
      try clear hcz31_0
      try clear hcz31_1
      try clear hcz33_0
      try clear hcz33_1
      try clear hcz8_0
      try clear hcz8_1
      try clear hcz9_0
      try clear hcz9_1
      try clear hfz18_0
      try clear hfz18_1
      try clear hfz22_0
      try clear hfz22_1
      try clear hfz24_0
      try clear hfz24_1
      try clear hfz29_0
      try clear hfz29_1
      try clear hfz31_0
      try clear hfz31_1
      try clear hfz33_0
      try clear hfz33_1
      try clear hfz8_0
      try clear hfz8_1
      try clear hfz9_0
      try clear hfz9_1
      try clear p2
      obtain ⟨x11_2, rfl, HA, HK2, HO_334001, HO_340001, BK326, BK333, BK339, HB⟩ := hrel
      cases gk with
      | zero => exact absurd HA.out (by simp [rillmeterlaw12_SignedTurns.l0])
      | succ k2 =>
       have H := HA.out
       clear HA
       simp only [rillmeterlaw12_SignedTurns.l0] at H
       by_cases c35 : x11_2 < 9
       ·
        rw [if_pos c35] at H
        have c35b0 : decide (x11_2 < 9) = true := decide_eq_true c35
        clear c35
        have HC36 := Aside0.mk H
        clear H
        go_upto_region 12 with (fail)
        go_cut [78] (fun v78 wc => ∃ (kq : Nat) (x78_35 : Bool), v78 = .bool x78_35 ∧ Aside0 (rillmeterlaw12_SignedTurns.j2 kq a1 a2 t338 t340 x11_2 0 x78_35 a0_0 l0_1 t329 t330 t334 t335 = some r) ∧ Aside0 (kq ≤ k2) ∧ Aside0 (Kd.V (Kd.slice 3 (Kd.int .i64)) 33 wc w.heap.size (fun k_ => some k_ ≠ ((.slice Ao30 t335.length co30) : Value).ownBlock ∧ k_ ≠ gb326 ∧ k_ ≠ gb333 ∧ k_ ≠ gb339) (.slice Ao23 t330.length co23) t330) ∧ Aside0 (Kd.S (Kd.slice 3 (Kd.int .i64)) 33 wc w.heap.size (fun _ => True) (.slice Ao30 t335.length co30) t335) ∧ Aside0 (wc.heap[gb326]? = some (.cells #[.int .u64 a0_0, (.slice A0_1 l0_1.length c0_1)] 25 (0, 0))) ∧ Aside0 (wc.heap[gb333]? = some (.cells #[.int .u64 t329, (.slice Ao23 t330.length co23)] 30 (0, 0))) ∧ Aside0 (wc.heap[gb339]? = some (.cells #[.int .u64 t334, (.slice Ao30 t335.length co30)] 25 (0, 0))) ∧ Aside0 (Below w.heap.size w wc))
        case first =>
         have H := HC36.out
         clear HC36
         by_cases c37 : x11_2 ≥ 0
         ·
          rw [if_pos c37] at H
          have c37b0 : decide (0 ≤ x11_2) = true := decide_eq_true c37
          clear c37
          (first | rw [c37b0] | (simp only [i64_w, i32_w]; rw [c37b0]) | skip)
          have H' := Aside0.mk H
          clear H
          have hnb38 := NB326_333.out
          have hnc38 := NB333_326.out
          have hnb39 := NB326_339.out
          have hnc39 := NB339_326.out
          have hcz40_0 : wr.cell? ⟨gb326, 0, none⟩ = some (.int .u64 a0_0) := (blk_cell BK326.out 0).trans rfl
          have hcz40_1 : wr.cell? ⟨gb326, 1, none⟩ = some (.slice A0_1 l0_1.length c0_1) := (blk_cell BK326.out 1).trans rfl
          have hfz40_0 := blk_frozen BK326.out 0
          have hfz40_1 := blk_frozen BK326.out 1
          go_wp2
          go_meet
          case rel => exact ⟨_, (decide (x11_2 < (l0_1.length : Int))), (by first | rfl | (simp; done) | (simp [*]; done)), H', ⟨by have := HJ3.out; have := HK2.out; first | omega | exact Nat.le_refl _⟩, ⟨pV HO_334001⟩, ⟨pS HO_340001⟩, ⟨pB BK326⟩, ⟨pB BK333⟩, ⟨pB BK339⟩, ⟨pH HB⟩⟩
         ·
          rw [if_neg c37] at H
          have c37b0 : decide (0 ≤ x11_2) = false := decide_eq_false c37
          clear c37
          (first | rw [c37b0] | (simp only [i64_w, i32_w]; rw [c37b0]) | skip)
          have H' := Aside0.mk H
          clear H
          go_wp2
          go_meet
          case rel => exact ⟨_, (false), (by first | rfl | (simp; done) | (simp [*]; done)), H', ⟨by have := HJ3.out; have := HK2.out; first | omega | exact Nat.le_refl _⟩, ⟨pV HO_334001⟩, ⟨pS HO_340001⟩, ⟨pB BK326⟩, ⟨pB BK333⟩, ⟨pB BK339⟩, ⟨pH HB⟩⟩
        case rest =>
         clear HC36
         try clear c1
         try clear c2
         try clear p2
         try clear c3
         try clear c5
         try clear c7
         try clear c10
         try clear c11
         try clear c12
         try clear c13
         try clear c14
         try clear c15
         try clear c16
         try clear c17
         try clear c21
         try clear c27
         try clear c28
         try clear c35
         try clear c35b0
         try clear c37
         try clear c37b0
         try clear c38
         try clear c39
         try clear hcz18_0
         try clear hcz18_1
         try clear hcz22_0
         try clear hcz22_1
         try clear hcz24_0
         try clear hcz24_1
         try clear hcz29_0
         try clear hcz29_1
         try clear hcz31_0
         try clear hcz31_1
         try clear hcz33_0
         try clear hcz33_1
         try clear hcz40_0
         try clear hcz40_1
         try clear hcz8_0
         try clear hcz8_1
         try clear hcz9_0
         try clear hcz9_1
         try clear hfz18_0
         try clear hfz18_1
         try clear hfz22_0
         try clear hfz22_1
         try clear hfz24_0
         try clear hfz24_1
         try clear hfz29_0
         try clear hfz29_1
         try clear hfz31_0
         try clear hfz31_1
         try clear hfz33_0
         try clear hfz33_1
         try clear hfz40_0
         try clear hfz40_1
         try clear hfz8_0
         try clear hfz8_1
         try clear hfz9_0
         try clear hfz9_1
         try clear p2
         obtain ⟨kq, x78_35, rfl, HA, HJ35, HO_334001, HO_340001, BK326, BK333, BK339, HB⟩ := hcut
         cases kq with
         | zero => exact absurd HA.out (by simp [rillmeterlaw12_SignedTurns.j2])
         | succ kj35 =>
          have H := HA.out
          clear HA
          simp only [rillmeterlaw12_SignedTurns.j2] at H
          by_cases c41 : x78_35 = true
          ·
           subst c41
           have H1 : (if 0 ≤ x11_2 then (if x11_2 < (l0_1.length : Int) then ((rillmeterref12_Cell.f kj35 a0_0 a1 x11_2 ((rd_L1 l0_1 x11_2).length : Int)).bind fun t346 => ((signed_Cell.f kj35 a0_0 l0_1 a1 x11_2).bind fun t347 => (if t347 = t346 then (rillmeterlaw12_SignedTurns.l0 kj35 a1 a2 t338 t340 (wrap64 (x11_2 + 1)) a0_0 l0_1 t329 t330 t334 t335) else (some false)))) else (none)) else (none)) = some r := by rw [if_pos rfl] at H; exact H
           clear H
           have H := H1
           clear H1
           by_cases c42 : 0 ≤ x11_2
           ·
            rw [if_pos c42] at H
            have c42b0 : decide (0 ≤ x11_2) = true := decide_eq_true c42
            clear c42
            by_cases c43 : x11_2 < (l0_1.length : Int)
            ·
             rw [if_pos c43] at H
             have c43b0 : decide (x11_2 < (l0_1.length : Int)) = true := decide_eq_true c43
             clear c43
             replace H := Option.bind_eq_some_iff.mp H
             obtain ⟨t346, A440, H⟩ := H
             replace H : ((signed_Cell.f kj35 a0_0 l0_1 a1 x11_2).bind fun t347 => (if t347 = t346 then (rillmeterlaw12_SignedTurns.l0 kj35 a1 a2 t338 t340 (wrap64 (x11_2 + 1)) a0_0 l0_1 t329 t330 t334 t335) else (some false))) = some r := H
             have A44 := Aside0.mk A440
             clear A440
             replace H := Option.bind_eq_some_iff.mp H
             obtain ⟨t347, A450, H⟩ := H
             replace H : (if t347 = t346 then (rillmeterlaw12_SignedTurns.l0 kj35 a1 a2 t338 t340 (wrap64 (x11_2 + 1)) a0_0 l0_1 t329 t330 t334 t335) else (some false)) = some r := H
             have A45 := Aside0.mk A450
             clear A450
             by_cases c46 : t347 = t346
             ·
              rw [if_pos c46] at H
              have c46b0 : (t347 == t346) = true := beq_iff_eq.mpr c46
              have c46b1 : (t347 != t346) = false := bne_eq_false_iff_eq.mpr c46
              clear c46
              have H' := Aside0.mk H
              clear H
              try go_wp2
              replace HO_334001 := Aside0.mk (Kd.V_drew HO_334001.out)
              replace HO_340001 := Aside0.mk (Kd.S_drew HO_340001.out)
              replace BK326 := Aside0.mk (blk_drew BK326.out)
              replace BK333 := Aside0.mk (blk_drew BK333.out)
              replace BK339 := Aside0.mk (blk_drew BK339.out)
              replace HB := Aside0.mk (below_drew1 HB.out)
              have p345 : 0 ≤ (x11_2 : Int) := of_decide_eq_true (by first | (with_reducible assumption) | assumption)
              have q345 : x11_2 < (l0_1.length : Int) := of_decide_eq_true (by first | (with_reducible assumption) | assumption)
              obtain ⟨ad345, A345_0, c345_0, e345, hx345_0, hl345_0, hi345_0⟩ := at_L1 HR0_1.out x11_2 p345 q345
              have hw345_0 := hx345_0
              cases e345
              replace hx345_0 := (HB.out.cell (World.block_lt_of_cell? w _ hx345_0)).trans hx345_0
              have HR345_0 := Aside0.mk hi345_0
              have HC345_0 := Aside0.mk hl345_0
              clear hi345_0 hl345_0
              replace p345 := eq_true p345
              replace q345 := eq_true q345
              refine start_ (n := 12) (S := fun w' => w'.cell? ⟨gb326, 0, none⟩ = some (.int .u64 a0_0) ∧ w'.cell? ⟨gb326, 1, none⟩ = some (.slice (some ad345) l0_1.length c0_1) ∧ w'.cell? (ad345.add (x11_2).toNat) = some (.slice A345_0 (rd_L1 l0_1 x11_2).length c345_0)) (ds := []) #[false, false, false, false, false, false, false, false, false, false, false, false] (by kernel_rfl) rfl rfl ⟨(blk_cell BK326.out 0).trans rfl, (blk_cell BK326.out 1).trans rfl, ((HB.out.cell (World.block_lt_of_cell? w _ hw345_0)).trans hw345_0)⟩ (fun hHeld => ?_); refine with_tabW rillmeterlaw12_SignedTurns.tab13 rillmeterlaw12_SignedTurns.bits13 (fun HT_ HW_ => ?_)
              generalize wc.drew = w47 at HO_334001 HO_340001 BK326 BK333 BK339 HB HR345_0 hx345_0 hHeld ⊢
              refine pure_ (i := 0) (N := some 79) (v := ?_) (a' := ?_) (mkB 12 1) rfl rfl (any_of HT_.out (by kernel_rfl)) (fun _ _ _ h => h) (Or.inl ⟨by rfl, ?_⟩) ?_ ?_
              rotate_left
              ·
               intro w'
               go_simp
               with_reducible rfl
              rotate_left
              ·
               simp only [Act.put, List.setIfInBounds_toArray, List.set_cons_zero, List.set_cons_succ, i64_w, i32_w]
               rfl
              refine pure_ (i := 2) (N := some 81) (v := ?_) (a' := ?_) (mkB 12 5) rfl rfl (any_of HT_.out (by kernel_rfl)) (fun _ _ _ h => h) (Or.inl ⟨by rfl, ?_⟩) ?_ ?_
              rotate_left
              ·
               intro w'
               go_simp
               with_reducible rfl
              rotate_left
              ·
               simp only [Act.put, List.setIfInBounds_toArray, List.set_cons_zero, List.set_cons_succ, i64_w, i32_w]
               rfl
              refine pure_ (i := 3) (N := some 82) (v := ?_) (a' := ?_) (mkB 12 13) rfl rfl (any_of HT_.out (by kernel_rfl)) (fun _ _ _ h => h) (Or.inl ⟨by rfl, ?_⟩) ?_ ?_
              rotate_left
              ·
               intro w'
               go_simp
               with_reducible rfl
              rotate_left
              ·
               simp only [Act.put, List.setIfInBounds_toArray, List.set_cons_zero, List.set_cons_succ, i64_w, i32_w]
               rfl
              refine pure_ (i := 4) (N := some 83) (v := ?_) (a' := ?_) (mkB 12 29) rfl rfl (any_of HT_.out (by kernel_rfl)) (fun _ _ _ h => h) (Or.inl ⟨by rfl, ?_⟩) ?_ ?_
              rotate_left
              ·
               intro w'
               go_simp
               with_reducible rfl
              rotate_left
              ·
               simp only [Act.put, List.setIfInBounds_toArray, List.set_cons_zero, List.set_cons_succ, i64_w, i32_w]
               rfl
              refine pure_ (i := 6) (N := some 85) (v := ?_) (a' := ?_) (mkB 12 93) rfl rfl (any_of HT_.out (by kernel_rfl)) (fun _ _ _ h => h) (Or.inl ⟨by rfl, ?_⟩) ?_ ?_
              rotate_left
              ·
               intro w'
               go_simp
               with_reducible rfl
              rotate_left
              ·
               simp only [Act.put, List.setIfInBounds_toArray, List.set_cons_zero, List.set_cons_succ, i64_w, i32_w]
               rfl
              refine take_ (i := 1) (N := some 80) (v := ?_) (a' := ?_) (mkB 12 95) rfl rfl (take_ofW HT_.out HW_.out (by kernel_rfl)) (fun _ _ _ h => h) (Or.inl ⟨by rfl, ?_⟩) hHeld ?_ ?_
              rotate_left
              ·
               rintro w' ⟨s0, s1, s2⟩
               go_simp
               with_reducible rfl
              rotate_left
              ·
               simp only [Act.put, List.setIfInBounds_toArray, List.set_cons_zero, List.set_cons_succ, i64_w, i32_w]
               rfl
              refine take_ (i := 5) (N := some 84) (v := ?_) (a' := ?_) (mkB 12 127) rfl rfl (take_ofW HT_.out HW_.out (by kernel_rfl)) (fun _ _ _ h => h) (Or.inl ⟨by rfl, ?_⟩) hHeld ?_ ?_
              rotate_left
              ·
               rintro w' ⟨s0, s1, s2⟩
               go_simp
               with_reducible rfl
              rotate_left
              ·
               simp only [Act.put, List.setIfInBounds_toArray, List.set_cons_zero, List.set_cons_succ, i64_w, i32_w]
               rfl
              refine pure_ (i := 7) (N := some 86) (v := ?_) (a' := ?_) (mkB 12 255) rfl rfl (any_of HT_.out (by kernel_rfl)) (fun _ _ _ h => h) (Or.inl ⟨by rfl, ?_⟩) ?_ ?_
              rotate_left
              ·
               intro w'
               go_simp
               with_reducible rfl
              rotate_left
              ·
               simp only [Act.put, List.setIfInBounds_toArray, List.set_cons_zero, List.set_cons_succ, i64_w, i32_w]
               rfl
              refine take_ (i := 8) (N := some 87) (v := ?_) (a' := ?_) (mkB 12 511) rfl rfl (take_ofW HT_.out HW_.out (by kernel_rfl)) (fun _ _ _ h => h) (Or.inl ⟨by rfl, ?_⟩) hHeld ?_ ?_
              rotate_left
              ·
               rintro w' ⟨s0, s1, s2⟩
               go_simp
               with_reducible rfl
              rotate_left
              ·
               simp only [Act.put, List.setIfInBounds_toArray, List.set_cons_zero, List.set_cons_succ, i64_w, i32_w]
               rfl
              refine pure_ (i := 9) (N := some 88) (v := ?_) (a' := ?_) (mkB 12 1023) rfl rfl (any_of HT_.out (by kernel_rfl)) (fun _ _ _ h => h) (Or.inl ⟨by rfl, ?_⟩) ?_ ?_
              rotate_left
              ·
               intro w'
               go_simp
               with_reducible rfl
              rotate_left
              ·
               simp only [Act.put, List.setIfInBounds_toArray, List.set_cons_zero, List.set_cons_succ, i64_w, i32_w]
               rfl
              refine one_ (i := 10) (N := some 89) (mkB 12 2047) rfl rfl (one_of HT_.out (by kernel_rfl)) (by decide) (fun K hK => ?_)
              refine goesN_ Try.func19 #[.int .u64 a0_0, .string a1, .int .i64 x11_2, .int .i64 ((rd_L1 l0_1 x11_2).length : Int)] ?_
              with_reducible refine (rillmeterref12_Cell.calls kj35 a0_0 a1 x11_2 ((rd_L1 l0_1 x11_2).length : Int) t346 _ A44.out).mono ?_
              rintro e w48 ⟨rfl, hb⟩
              refine ⟨_, rfl, ?_⟩
              replace HO_334001 := Aside0.mk (Kd.V_below (pV HO_334001) hb)
              replace HO_340001 := Aside0.mk (Kd.S_below (pS HO_340001) hb)
              replace BK326 := bB BK326 hb
              replace BK333 := bB BK333 hb
              replace BK339 := bB BK339 hb
              replace HB := stB HB hb
              (try clear hb)
              (try clear hb2)
              (try clear hk)
              (try clear hi)
              refine hK.out _ _ ⟨(blk_cell BK326.out 0).trans rfl, (blk_cell BK326.out 1).trans rfl, ((HB.out.cell (World.block_lt_of_cell? w _ hw345_0)).trans hw345_0)⟩ (fun hHeld => ?_)
              clear hK K
              refine norm_ (a' := ?_) ?_ ?_
              rotate_left
              ·
               show Act.put _ (some 89) _ = _
               simp only [Act.put, List.setIfInBounds_toArray, List.set_cons_zero, List.set_cons_succ, i64_w, i32_w]
               rfl
              refine pure_ (i := 11) (N := some 12) (v := ?_) (a' := ?_) (mkB 12 4095) rfl rfl (any_of HT_.out (by kernel_rfl)) (fun _ _ _ h => h) (Or.inl ⟨by rfl, ?_⟩) ?_ ?_
              rotate_left
              ·
               intro w'
               go_simp
               with_reducible rfl
              rotate_left
              ·
               simp only [Act.put, List.setIfInBounds_toArray, List.set_cons_zero, List.set_cons_succ, i64_w, i32_w]
               rfl
              refine done_ (done_of HT_.out (by kernel_rfl)) ?_
              have hnb49 := NB326_333.out
              have hnc49 := NB333_326.out
              have hnb50 := NB326_339.out
              have hnc50 := NB339_326.out
              have hcz51_0 : w48.cell? ⟨gb326, 0, none⟩ = some (.int .u64 a0_0) := (blk_cell BK326.out 0).trans rfl
              have hcz51_1 : w48.cell? ⟨gb326, 1, none⟩ = some (.slice (some ad345) l0_1.length c0_1) := (blk_cell BK326.out 1).trans rfl
              have hfz51_0 := blk_frozen BK326.out 0
              have hfz51_1 := blk_frozen BK326.out 1
              try go_wp2_with (first | ((with_reducible refine gate_callee (f := 18) rfl ?_); refine goesM_ (some 93) Try.func18 #[.agg #[.int .u64 a0_0, .slice (some ad345) l0_1.length c0_1], .string a1, .int .i64 x11_2] ?_; (with_reducible refine (signed_Cell.calls kj35 a0_0 _ _ l0_1 a1 x11_2 t347 _ ?side1 ?side2 A45.out).mono ?_); (case side1 => repeat (first | exact (Kd.C_below HR0_1.out HB.out) | (with_reducible refine Kd.C_alloc ?_ _) | (with_reducible refine Kd.C_drewN ?_ _) | (with_reducible refine Kd.C_drew ?_))); (case side2 => exact HC0_1.out); rintro e w52 ⟨rfl, hb⟩; refine ⟨_, rfl, ?_⟩; replace HO_334001 := Aside0.mk (Kd.V_below (pV HO_334001) hb); replace HO_340001 := Aside0.mk (Kd.S_below (pS HO_340001) hb); replace BK326 := bB BK326 hb; replace BK333 := bB BK333 hb; replace BK339 := bB BK339 hb; replace HB := stB HB hb; (try clear hb); (try clear hb2); (try clear hk); (try clear hi)))
              go_roundg kj35
              case measure => have := HJ3.out; have := HK2.out; have := HJ35.out; omega
              case rel => exact ⟨(wrap64 (x11_2 + 1)), (by first | rfl | (simp; done) | (simp [*]; done)), H', ⟨by have := HJ3.out; have := HK2.out; have := HJ35.out; omega⟩, ⟨pV HO_334001⟩, ⟨pS HO_340001⟩, ⟨pB BK326⟩, ⟨pB BK333⟩, ⟨pB BK339⟩, ⟨pH HB⟩⟩
             ·
              rw [if_neg c46] at H
              have c46b0 : (t347 == t346) = false := beq_eq_false_iff_ne.mpr c46
              have c46b1 : (t347 != t346) = true := bne_iff_ne.mpr c46
              obtain rfl := Option.some.inj H
              try go_wp2
              replace HO_334001 := Aside0.mk (Kd.V_drew HO_334001.out)
              replace HO_340001 := Aside0.mk (Kd.S_drew HO_340001.out)
              replace BK326 := Aside0.mk (blk_drew BK326.out)
              replace BK333 := Aside0.mk (blk_drew BK333.out)
              replace BK339 := Aside0.mk (blk_drew BK339.out)
              replace HB := Aside0.mk (below_drew1 HB.out)
              have p345 : 0 ≤ (x11_2 : Int) := of_decide_eq_true (by first | (with_reducible assumption) | assumption)
              have q345 : x11_2 < (l0_1.length : Int) := of_decide_eq_true (by first | (with_reducible assumption) | assumption)
              obtain ⟨ad345, A345_0, c345_0, e345, hx345_0, hl345_0, hi345_0⟩ := at_L1 HR0_1.out x11_2 p345 q345
              have hw345_0 := hx345_0
              cases e345
              replace hx345_0 := (HB.out.cell (World.block_lt_of_cell? w _ hx345_0)).trans hx345_0
              have HR345_0 := Aside0.mk hi345_0
              have HC345_0 := Aside0.mk hl345_0
              clear hi345_0 hl345_0
              replace p345 := eq_true p345
              replace q345 := eq_true q345
              refine start_ (n := 12) (S := fun w' => w'.cell? ⟨gb326, 0, none⟩ = some (.int .u64 a0_0) ∧ w'.cell? ⟨gb326, 1, none⟩ = some (.slice (some ad345) l0_1.length c0_1) ∧ w'.cell? (ad345.add (x11_2).toNat) = some (.slice A345_0 (rd_L1 l0_1 x11_2).length c345_0)) (ds := []) #[false, false, false, false, false, false, false, false, false, false, false, false] (by kernel_rfl) rfl rfl ⟨(blk_cell BK326.out 0).trans rfl, (blk_cell BK326.out 1).trans rfl, ((HB.out.cell (World.block_lt_of_cell? w _ hw345_0)).trans hw345_0)⟩ (fun hHeld => ?_); refine with_tabW rillmeterlaw12_SignedTurns.tab13 rillmeterlaw12_SignedTurns.bits13 (fun HT_ HW_ => ?_)
              generalize wc.drew = w53 at HO_334001 HO_340001 BK326 BK333 BK339 HB HR345_0 hx345_0 hHeld ⊢
              refine pure_ (i := 0) (N := some 79) (v := ?_) (a' := ?_) (mkB 12 1) rfl rfl (any_of HT_.out (by kernel_rfl)) (fun _ _ _ h => h) (Or.inl ⟨by rfl, ?_⟩) ?_ ?_
              rotate_left
              ·
               intro w'
               go_simp
               with_reducible rfl
              rotate_left
              ·
               simp only [Act.put, List.setIfInBounds_toArray, List.set_cons_zero, List.set_cons_succ, i64_w, i32_w]
               rfl
              refine pure_ (i := 2) (N := some 81) (v := ?_) (a' := ?_) (mkB 12 5) rfl rfl (any_of HT_.out (by kernel_rfl)) (fun _ _ _ h => h) (Or.inl ⟨by rfl, ?_⟩) ?_ ?_
              rotate_left
              ·
               intro w'
               go_simp
               with_reducible rfl
              rotate_left
              ·
               simp only [Act.put, List.setIfInBounds_toArray, List.set_cons_zero, List.set_cons_succ, i64_w, i32_w]
               rfl
              refine pure_ (i := 3) (N := some 82) (v := ?_) (a' := ?_) (mkB 12 13) rfl rfl (any_of HT_.out (by kernel_rfl)) (fun _ _ _ h => h) (Or.inl ⟨by rfl, ?_⟩) ?_ ?_
              rotate_left
              ·
               intro w'
               go_simp
               with_reducible rfl
              rotate_left
              ·
               simp only [Act.put, List.setIfInBounds_toArray, List.set_cons_zero, List.set_cons_succ, i64_w, i32_w]
               rfl
              refine pure_ (i := 4) (N := some 83) (v := ?_) (a' := ?_) (mkB 12 29) rfl rfl (any_of HT_.out (by kernel_rfl)) (fun _ _ _ h => h) (Or.inl ⟨by rfl, ?_⟩) ?_ ?_
              rotate_left
              ·
               intro w'
               go_simp
               with_reducible rfl
              rotate_left
              ·
               simp only [Act.put, List.setIfInBounds_toArray, List.set_cons_zero, List.set_cons_succ, i64_w, i32_w]
               rfl
              refine pure_ (i := 6) (N := some 85) (v := ?_) (a' := ?_) (mkB 12 93) rfl rfl (any_of HT_.out (by kernel_rfl)) (fun _ _ _ h => h) (Or.inl ⟨by rfl, ?_⟩) ?_ ?_
              rotate_left
              ·
               intro w'
               go_simp
               with_reducible rfl
              rotate_left
              ·
               simp only [Act.put, List.setIfInBounds_toArray, List.set_cons_zero, List.set_cons_succ, i64_w, i32_w]
               rfl
              refine take_ (i := 1) (N := some 80) (v := ?_) (a' := ?_) (mkB 12 95) rfl rfl (take_ofW HT_.out HW_.out (by kernel_rfl)) (fun _ _ _ h => h) (Or.inl ⟨by rfl, ?_⟩) hHeld ?_ ?_
              rotate_left
              ·
               rintro w' ⟨s0, s1, s2⟩
               go_simp
               with_reducible rfl
              rotate_left
              ·
               simp only [Act.put, List.setIfInBounds_toArray, List.set_cons_zero, List.set_cons_succ, i64_w, i32_w]
               rfl
              refine take_ (i := 5) (N := some 84) (v := ?_) (a' := ?_) (mkB 12 127) rfl rfl (take_ofW HT_.out HW_.out (by kernel_rfl)) (fun _ _ _ h => h) (Or.inl ⟨by rfl, ?_⟩) hHeld ?_ ?_
              rotate_left
              ·
               rintro w' ⟨s0, s1, s2⟩
               go_simp
               with_reducible rfl
              rotate_left
              ·
               simp only [Act.put, List.setIfInBounds_toArray, List.set_cons_zero, List.set_cons_succ, i64_w, i32_w]
               rfl
              refine pure_ (i := 7) (N := some 86) (v := ?_) (a' := ?_) (mkB 12 255) rfl rfl (any_of HT_.out (by kernel_rfl)) (fun _ _ _ h => h) (Or.inl ⟨by rfl, ?_⟩) ?_ ?_
              rotate_left
              ·
               intro w'
               go_simp
               with_reducible rfl
              rotate_left
              ·
               simp only [Act.put, List.setIfInBounds_toArray, List.set_cons_zero, List.set_cons_succ, i64_w, i32_w]
               rfl
              refine take_ (i := 8) (N := some 87) (v := ?_) (a' := ?_) (mkB 12 511) rfl rfl (take_ofW HT_.out HW_.out (by kernel_rfl)) (fun _ _ _ h => h) (Or.inl ⟨by rfl, ?_⟩) hHeld ?_ ?_
              rotate_left
              ·
               rintro w' ⟨s0, s1, s2⟩
               go_simp
               with_reducible rfl
              rotate_left
              ·
               simp only [Act.put, List.setIfInBounds_toArray, List.set_cons_zero, List.set_cons_succ, i64_w, i32_w]
               rfl
              refine pure_ (i := 9) (N := some 88) (v := ?_) (a' := ?_) (mkB 12 1023) rfl rfl (any_of HT_.out (by kernel_rfl)) (fun _ _ _ h => h) (Or.inl ⟨by rfl, ?_⟩) ?_ ?_
              rotate_left
              ·
               intro w'
               go_simp
               with_reducible rfl
              rotate_left
              ·
               simp only [Act.put, List.setIfInBounds_toArray, List.set_cons_zero, List.set_cons_succ, i64_w, i32_w]
               rfl
              refine one_ (i := 10) (N := some 89) (mkB 12 2047) rfl rfl (one_of HT_.out (by kernel_rfl)) (by decide) (fun K hK => ?_)
              refine goesN_ Try.func19 #[.int .u64 a0_0, .string a1, .int .i64 x11_2, .int .i64 ((rd_L1 l0_1 x11_2).length : Int)] ?_
              with_reducible refine (rillmeterref12_Cell.calls kj35 a0_0 a1 x11_2 ((rd_L1 l0_1 x11_2).length : Int) t346 _ A44.out).mono ?_
              rintro e w54 ⟨rfl, hb⟩
              refine ⟨_, rfl, ?_⟩
              replace HO_334001 := Aside0.mk (Kd.V_below (pV HO_334001) hb)
              replace HO_340001 := Aside0.mk (Kd.S_below (pS HO_340001) hb)
              replace BK326 := bB BK326 hb
              replace BK333 := bB BK333 hb
              replace BK339 := bB BK339 hb
              replace HB := stB HB hb
              (try clear hb)
              (try clear hb2)
              (try clear hk)
              (try clear hi)
              refine hK.out _ _ ⟨(blk_cell BK326.out 0).trans rfl, (blk_cell BK326.out 1).trans rfl, ((HB.out.cell (World.block_lt_of_cell? w _ hw345_0)).trans hw345_0)⟩ (fun hHeld => ?_)
              clear hK K
              refine norm_ (a' := ?_) ?_ ?_
              rotate_left
              ·
               show Act.put _ (some 89) _ = _
               simp only [Act.put, List.setIfInBounds_toArray, List.set_cons_zero, List.set_cons_succ, i64_w, i32_w]
               rfl
              refine pure_ (i := 11) (N := some 12) (v := ?_) (a' := ?_) (mkB 12 4095) rfl rfl (any_of HT_.out (by kernel_rfl)) (fun _ _ _ h => h) (Or.inl ⟨by rfl, ?_⟩) ?_ ?_
              rotate_left
              ·
               intro w'
               go_simp
               with_reducible rfl
              rotate_left
              ·
               simp only [Act.put, List.setIfInBounds_toArray, List.set_cons_zero, List.set_cons_succ, i64_w, i32_w]
               rfl
              refine done_ (done_of HT_.out (by kernel_rfl)) ?_
              have hnb55 := NB326_333.out
              have hnc55 := NB333_326.out
              have hnb56 := NB326_339.out
              have hnc56 := NB339_326.out
              have hcz57_0 : w54.cell? ⟨gb326, 0, none⟩ = some (.int .u64 a0_0) := (blk_cell BK326.out 0).trans rfl
              have hcz57_1 : w54.cell? ⟨gb326, 1, none⟩ = some (.slice (some ad345) l0_1.length c0_1) := (blk_cell BK326.out 1).trans rfl
              have hfz57_0 := blk_frozen BK326.out 0
              have hfz57_1 := blk_frozen BK326.out 1
              try go_wp2_with (first | ((with_reducible refine gate_callee (f := 18) rfl ?_); refine goesM_ (some 93) Try.func18 #[.agg #[.int .u64 a0_0, .slice (some ad345) l0_1.length c0_1], .string a1, .int .i64 x11_2] ?_; (with_reducible refine (signed_Cell.calls kj35 a0_0 _ _ l0_1 a1 x11_2 t347 _ ?side1 ?side2 A45.out).mono ?_); (case side1 => repeat (first | exact (Kd.C_below HR0_1.out HB.out) | (with_reducible refine Kd.C_alloc ?_ _) | (with_reducible refine Kd.C_drewN ?_ _) | (with_reducible refine Kd.C_drew ?_))); (case side2 => exact HC0_1.out); rintro e w58 ⟨rfl, hb⟩; refine ⟨_, rfl, ?_⟩; replace HO_334001 := Aside0.mk (Kd.V_below (pV HO_334001) hb); replace HO_340001 := Aside0.mk (Kd.S_below (pS HO_340001) hb); replace BK326 := bB BK326 hb; replace BK333 := bB BK333 hb; replace BK339 := bB BK339 hb; replace HB := stB HB hb; (try clear hb); (try clear hb2); (try clear hk); (try clear hi)))
              go_ret
              exact ⟨by first | rfl | (simp [errW_none, errW_some] <;> rfl) | (simp [*, errW_none, errW_some] <;> rfl), by repeat (first | (with_reducible first | exact HB.out | apply below_alloc | apply pw_below_drewN | apply below_drew1 | refine below_set ?_ GE326.out | refine below_set ?_ GE333.out | refine below_set ?_ GE339.out) | exact HB.out)⟩
            ·
             rw [if_neg c43] at H
             exact absurd H (by simp)
           ·
            rw [if_neg c42] at H
            exact absurd H (by simp)
          ·
           replace c41 := Bool.eq_false_iff.mpr c41
           subst c41
           have H1 : ((signed_Cell.f kj35 a0_0 l0_1 a1 x11_2).bind fun t348 => (if t348 = 0 then (rillmeterlaw12_SignedTurns.l0 kj35 a1 a2 t338 t340 (wrap64 (x11_2 + 1)) a0_0 l0_1 t329 t330 t334 t335) else (some false))) = some r := by rw [if_neg (show ¬ (false = true) by decide)] at H; exact H
           clear H
           have H := H1
           clear H1
           replace H := Option.bind_eq_some_iff.mp H
           obtain ⟨t348, A590, H⟩ := H
           replace H : (if t348 = 0 then (rillmeterlaw12_SignedTurns.l0 kj35 a1 a2 t338 t340 (wrap64 (x11_2 + 1)) a0_0 l0_1 t329 t330 t334 t335) else (some false)) = some r := H
           have A59 := Aside0.mk A590
           clear A590
           by_cases c60 : t348 = 0
           ·
            rw [if_pos c60] at H
            have c60b0 : (t348 == 0) = true := beq_iff_eq.mpr c60
            have c60b1 : (t348 != 0) = false := bne_eq_false_iff_eq.mpr c60
            clear c60
            have H' := Aside0.mk H
            clear H
            have hnb61 := NB326_333.out
            have hnc61 := NB333_326.out
            have hnb62 := NB326_339.out
            have hnc62 := NB339_326.out
            have hcz63_0 : wc.cell? ⟨gb326, 0, none⟩ = some (.int .u64 a0_0) := (blk_cell BK326.out 0).trans rfl
            have hcz63_1 : wc.cell? ⟨gb326, 1, none⟩ = some (.slice A0_1 l0_1.length c0_1) := (blk_cell BK326.out 1).trans rfl
            have hfz63_0 := blk_frozen BK326.out 0
            have hfz63_1 := blk_frozen BK326.out 1
            go_wp2_with (first | ((with_reducible refine gate_callee (f := 18) rfl ?_); refine goesM_ (some 93) Try.func18 #[.agg #[.int .u64 a0_0, .slice A0_1 l0_1.length c0_1], .string a1, .int .i64 x11_2] ?_; (with_reducible refine (signed_Cell.calls kj35 a0_0 _ _ l0_1 a1 x11_2 t348 _ ?side1 ?side2 A59.out).mono ?_); (case side1 => repeat (first | exact (Kd.C_below HR0_1.out HB.out) | (with_reducible refine Kd.C_alloc ?_ _) | (with_reducible refine Kd.C_drewN ?_ _) | (with_reducible refine Kd.C_drew ?_))); (case side2 => exact HC0_1.out); rintro e w64 ⟨rfl, hb⟩; refine ⟨_, rfl, ?_⟩; replace HO_334001 := Aside0.mk (Kd.V_below (pV HO_334001) hb); replace HO_340001 := Aside0.mk (Kd.S_below (pS HO_340001) hb); replace BK326 := bB BK326 hb; replace BK333 := bB BK333 hb; replace BK339 := bB BK339 hb; replace HB := stB HB hb; (try clear hb); (try clear hb2); (try clear hk); (try clear hi)))
            go_roundg kj35
            case measure => have := HJ3.out; have := HK2.out; have := HJ35.out; omega
            case rel => exact ⟨(wrap64 (x11_2 + 1)), (by first | rfl | (simp; done) | (simp [*]; done)), H', ⟨by have := HJ3.out; have := HK2.out; have := HJ35.out; omega⟩, ⟨pV HO_334001⟩, ⟨pS HO_340001⟩, ⟨pB BK326⟩, ⟨pB BK333⟩, ⟨pB BK339⟩, ⟨pH HB⟩⟩
           ·
            rw [if_neg c60] at H
            have c60b0 : (t348 == 0) = false := beq_eq_false_iff_ne.mpr c60
            have c60b1 : (t348 != 0) = true := bne_iff_ne.mpr c60
            obtain rfl := Option.some.inj H
            have hnb65 := NB326_333.out
            have hnc65 := NB333_326.out
            have hnb66 := NB326_339.out
            have hnc66 := NB339_326.out
            have hcz67_0 : wc.cell? ⟨gb326, 0, none⟩ = some (.int .u64 a0_0) := (blk_cell BK326.out 0).trans rfl
            have hcz67_1 : wc.cell? ⟨gb326, 1, none⟩ = some (.slice A0_1 l0_1.length c0_1) := (blk_cell BK326.out 1).trans rfl
            have hfz67_0 := blk_frozen BK326.out 0
            have hfz67_1 := blk_frozen BK326.out 1
            go_wp2_with (first | ((with_reducible refine gate_callee (f := 18) rfl ?_); refine goesM_ (some 93) Try.func18 #[.agg #[.int .u64 a0_0, .slice A0_1 l0_1.length c0_1], .string a1, .int .i64 x11_2] ?_; (with_reducible refine (signed_Cell.calls kj35 a0_0 _ _ l0_1 a1 x11_2 t348 _ ?side1 ?side2 A59.out).mono ?_); (case side1 => repeat (first | exact (Kd.C_below HR0_1.out HB.out) | (with_reducible refine Kd.C_alloc ?_ _) | (with_reducible refine Kd.C_drewN ?_ _) | (with_reducible refine Kd.C_drew ?_))); (case side2 => exact HC0_1.out); rintro e w68 ⟨rfl, hb⟩; refine ⟨_, rfl, ?_⟩; replace HO_334001 := Aside0.mk (Kd.V_below (pV HO_334001) hb); replace HO_340001 := Aside0.mk (Kd.S_below (pS HO_340001) hb); replace BK326 := bB BK326 hb; replace BK333 := bB BK333 hb; replace BK339 := bB BK339 hb; replace HB := stB HB hb; (try clear hb); (try clear hb2); (try clear hk); (try clear hi)))
            go_ret
            exact ⟨by first | rfl | (simp [errW_none, errW_some] <;> rfl) | (simp [*, errW_none, errW_some] <;> rfl), by repeat (first | (with_reducible first | exact HB.out | apply below_alloc | apply pw_below_drewN | apply below_drew1 | refine below_set ?_ GE326.out | refine below_set ?_ GE333.out | refine below_set ?_ GE339.out) | exact HB.out)⟩
       ·
        rw [if_neg c35] at H
        have c35b0 : decide (x11_2 < 9) = false := decide_eq_false c35
        clear c35
        have HC69 := Aside0.mk H
        clear H
        go_upto_region 16 with (fail)
        go_cut [105] (fun v105 wc => ∃ (kq : Nat) (x105_68 : Bool), v105 = .bool x105_68 ∧ Aside0 (rillmeterlaw12_SignedTurns.j3 kq a1 a2 t338 x105_68 t329 t330 t334 t335 = some r) ∧ Aside0 (kq ≤ k2) ∧ Aside0 (Kd.V (Kd.slice 3 (Kd.int .i64)) 33 wc w.heap.size (fun k_ => some k_ ≠ ((.slice Ao30 t335.length co30) : Value).ownBlock ∧ k_ ≠ gb326 ∧ k_ ≠ gb333 ∧ k_ ≠ gb339) (.slice Ao23 t330.length co23) t330) ∧ Aside0 (Kd.S (Kd.slice 3 (Kd.int .i64)) 33 wc w.heap.size (fun _ => True) (.slice Ao30 t335.length co30) t335) ∧ Aside0 (wc.heap[gb326]? = some (.cells #[.int .u64 a0_0, (.slice A0_1 l0_1.length c0_1)] 25 (0, 0))) ∧ Aside0 (wc.heap[gb333]? = some (.cells #[.int .u64 t329, (.slice Ao23 t330.length co23)] 30 (0, 0))) ∧ Aside0 (wc.heap[gb339]? = some (.cells #[.int .u64 t334, (.slice Ao30 t335.length co30)] 25 (0, 0))) ∧ Aside0 (Below w.heap.size w wc))
        case first =>
         have H := HC69.out
         clear HC69
         replace H := Option.bind_eq_some_iff.mp H
         obtain ⟨t349, A700, H⟩ := H
         replace H : (if t340 = t349 then ((signed_Right.f a0_0 l0_1).bind fun t350 => (rillmeterlaw12_SignedTurns.j3 k2 a1 a2 t338 (!t350) t329 t330 t334 t335)) else (rillmeterlaw12_SignedTurns.j3 k2 a1 a2 t338 true t329 t330 t334 t335)) = some r := H
         have A70 := Aside0.mk A700
         clear A700
         by_cases c71 : t340 = t349
         ·
          rw [if_pos c71] at H
          have c71b0 : (t340 == t349) = true := beq_iff_eq.mpr c71
          have c71b1 : (t340 != t349) = false := bne_eq_false_iff_eq.mpr c71
          clear c71
          (first | rw [c71b0] | (simp only [i64_w, i32_w]; rw [c71b0]) | skip)
          replace H := Option.bind_eq_some_iff.mp H
          obtain ⟨t350, A720, H⟩ := H
          replace H : (rillmeterlaw12_SignedTurns.j3 k2 a1 a2 t338 (!t350) t329 t330 t334 t335) = some r := H
          have A72 := Aside0.mk A720
          clear A720
          have H' := Aside0.mk H
          clear H
          have hnb73 := NB333_326.out
          have hnc73 := NB326_333.out
          have hnb74 := NB333_339.out
          have hnc74 := NB339_333.out
          have hcz75_0 : wr.cell? ⟨gb333, 0, none⟩ = some (.int .u64 t329) := (blk_cell BK333.out 0).trans rfl
          have hcz75_1 : wr.cell? ⟨gb333, 1, none⟩ = some (.slice Ao23 t330.length co23) := (blk_cell BK333.out 1).trans rfl
          have hfz75_0 := blk_frozen BK333.out 0
          have hfz75_1 := blk_frozen BK333.out 1
          go_wp2_with (first | ((with_reducible refine gate_callee (f := 20) rfl ?_); refine goesM_ (some 99) Try.func20 #[.agg #[.int .u64 t329, .slice Ao23 t330.length co23], .string a1] ?_; (with_reducible refine (rillmeterref12_Get.calls k2 t329 _ _ t330 a1 t349 _ ?side1 ?side2 A70.out).mono ?_); (case side1 => repeat (first | exact (Kd.V_reads' HO_334001.out).2.2 | (with_reducible refine Kd.C_alloc ?_ _) | (with_reducible refine Kd.C_drewN ?_ _) | (with_reducible refine Kd.C_drew ?_))); (case side2 => exact (Kd.V_reads' HO_334001.out).2.1); rintro e w76 ⟨rfl, hb⟩; refine ⟨_, rfl, ?_⟩; replace HO_334001 := Aside0.mk (Kd.V_below (pV HO_334001) hb); replace HO_340001 := Aside0.mk (Kd.S_below (pS HO_340001) hb); replace BK326 := bB BK326 hb; replace BK333 := bB BK333 hb; replace BK339 := bB BK339 hb; replace HB := stB HB hb; (try clear hb); (try clear hb2); (try clear hk); (try clear hi); have hnb77 := NB326_339.out; have hnc77 := NB339_326.out; have hcz78_0 : w76.cell? ⟨gb326, 0, none⟩ = some (.int .u64 a0_0) := (blk_cell BK326.out 0).trans rfl; have hcz78_1 : w76.cell? ⟨gb326, 1, none⟩ = some (.slice A0_1 l0_1.length c0_1) := (blk_cell BK326.out 1).trans rfl; have hfz78_0 := blk_frozen BK326.out 0; have hfz78_1 := blk_frozen BK326.out 1) | (go_at_call 17; (with_reducible refine (signed_Right.calls a0_0 _ _ l0_1 t350 _ ?side1 ?side2 A72.out).mono ?_); (case side1 => repeat (first | exact (Kd.C_below HR0_1.out HB.out) | (with_reducible refine Kd.C_alloc ?_ _) | (with_reducible refine Kd.C_drewN ?_ _) | (with_reducible refine Kd.C_drew ?_))); (case side2 => exact HC0_1.out); rintro e w79 ⟨rfl, hb⟩; replace HO_334001 := Aside0.mk (Kd.V_below (pV HO_334001) hb); replace HO_340001 := Aside0.mk (Kd.S_below (pS HO_340001) hb); replace BK326 := bB BK326 hb; replace BK333 := bB BK333 hb; replace BK339 := bB BK339 hb; replace HB := stB HB hb; (try clear hb); (try clear hb2); (try clear hk); (try clear hi)))
          go_meet
          case rel => exact ⟨_, (!t350), (by first | rfl | (simp; done) | (simp [*]; done)), H', ⟨by have := HJ3.out; have := HK2.out; first | omega | exact Nat.le_refl _⟩, ⟨pV HO_334001⟩, ⟨pS HO_340001⟩, ⟨pB BK326⟩, ⟨pB BK333⟩, ⟨pB BK339⟩, ⟨pH HB⟩⟩
         ·
          rw [if_neg c71] at H
          have c71b0 : (t340 == t349) = false := beq_eq_false_iff_ne.mpr c71
          have c71b1 : (t340 != t349) = true := bne_iff_ne.mpr c71
          (first | rw [c71b0] | (simp only [i64_w, i32_w]; rw [c71b0]) | skip)
          have H' := Aside0.mk H
          clear H
          have hnb80 := NB333_326.out
          have hnc80 := NB326_333.out
          have hnb81 := NB333_339.out
          have hnc81 := NB339_333.out
          have hcz82_0 : wr.cell? ⟨gb333, 0, none⟩ = some (.int .u64 t329) := (blk_cell BK333.out 0).trans rfl
          have hcz82_1 : wr.cell? ⟨gb333, 1, none⟩ = some (.slice Ao23 t330.length co23) := (blk_cell BK333.out 1).trans rfl
          have hfz82_0 := blk_frozen BK333.out 0
          have hfz82_1 := blk_frozen BK333.out 1
          go_wp2_with (first | ((with_reducible refine gate_callee (f := 20) rfl ?_); refine goesM_ (some 99) Try.func20 #[.agg #[.int .u64 t329, .slice Ao23 t330.length co23], .string a1] ?_; (with_reducible refine (rillmeterref12_Get.calls k2 t329 _ _ t330 a1 t349 _ ?side1 ?side2 A70.out).mono ?_); (case side1 => repeat (first | exact (Kd.V_reads' HO_334001.out).2.2 | (with_reducible refine Kd.C_alloc ?_ _) | (with_reducible refine Kd.C_drewN ?_ _) | (with_reducible refine Kd.C_drew ?_))); (case side2 => exact (Kd.V_reads' HO_334001.out).2.1); rintro e w83 ⟨rfl, hb⟩; refine ⟨_, rfl, ?_⟩; replace HO_334001 := Aside0.mk (Kd.V_below (pV HO_334001) hb); replace HO_340001 := Aside0.mk (Kd.S_below (pS HO_340001) hb); replace BK326 := bB BK326 hb; replace BK333 := bB BK333 hb; replace BK339 := bB BK339 hb; replace HB := stB HB hb; (try clear hb); (try clear hb2); (try clear hk); (try clear hi)))
          go_meet
          case rel => exact ⟨_, (true), (by first | rfl | (simp; done) | (simp [*]; done)), H', ⟨by have := HJ3.out; have := HK2.out; first | omega | exact Nat.le_refl _⟩, ⟨pV HO_334001⟩, ⟨pS HO_340001⟩, ⟨pB BK326⟩, ⟨pB BK333⟩, ⟨pB BK339⟩, ⟨pH HB⟩⟩
        case rest =>
         clear HC69
         try clear c1
         try clear c2
         try clear p2
         try clear c3
         try clear p3
         try clear q3
         try clear hx3
         try clear c4
         try clear c5
         try clear c6
         try clear p6
         try clear c7
         try clear c8
         try clear c10
         try clear c11
         try clear c12
         try clear c13
         try clear c14
         try clear c15
         try clear c16
         try clear c17
         try clear c18
         try clear c19
         try clear c20
         try clear c21
         try clear c27
         try clear c28
         try clear c34
         try clear p34
         try clear q34
         try clear hx34
         try clear c35
         try clear c35b0
         try clear c37
         try clear c37b0
         try clear c38
         try clear c39
         try clear c41
         try clear c42
         try clear c42b0
         try clear c43
         try clear c43b0
         try clear c46
         try clear c46b0
         try clear c46b1
         try clear c49
         try clear c50
         try clear c55
         try clear c56
         try clear c60
         try clear c60b0
         try clear c60b1
         try clear c61
         try clear c62
         try clear p64
         try clear c65
         try clear c66
         try clear c71
         try clear c71b0
         try clear c71b1
         try clear c73
         try clear c74
         try clear c77
         try clear c80
         try clear c81
         try clear hcz18_0
         try clear hcz18_1
         try clear hcz22_0
         try clear hcz22_1
         try clear hcz24_0
         try clear hcz24_1
         try clear hcz29_0
         try clear hcz29_1
         try clear hcz31_0
         try clear hcz31_1
         try clear hcz33_0
         try clear hcz33_1
         try clear hcz40_0
         try clear hcz40_1
         try clear hcz51_0
         try clear hcz51_1
         try clear hcz57_0
         try clear hcz57_1
         try clear hcz63_0
         try clear hcz63_1
         try clear hcz67_0
         try clear hcz67_1
         try clear hcz75_0
         try clear hcz75_1
         try clear hcz78_0
         try clear hcz78_1
         try clear hcz82_0
         try clear hcz82_1
         try clear hcz8_0
         try clear hcz8_1
         try clear hcz9_0
         try clear hcz9_1
         try clear hfz18_0
         try clear hfz18_1
         try clear hfz22_0
         try clear hfz22_1
         try clear hfz24_0
         try clear hfz24_1
         try clear hfz29_0
         try clear hfz29_1
         try clear hfz31_0
         try clear hfz31_1
         try clear hfz33_0
         try clear hfz33_1
         try clear hfz40_0
         try clear hfz40_1
         try clear hfz51_0
         try clear hfz51_1
         try clear hfz57_0
         try clear hfz57_1
         try clear hfz63_0
         try clear hfz63_1
         try clear hfz67_0
         try clear hfz67_1
         try clear hfz75_0
         try clear hfz75_1
         try clear hfz78_0
         try clear hfz78_1
         try clear hfz82_0
         try clear hfz82_1
         try clear hfz8_0
         try clear hfz8_1
         try clear hfz9_0
         try clear hfz9_1
         try clear hx345_0
         try clear p2
         try clear p345
         try clear q345
         obtain ⟨kq, x105_68, rfl, HA, HJ68, HO_334001, HO_340001, BK326, BK333, BK339, HB⟩ := hcut
         cases kq with
         | zero => exact absurd HA.out (by simp [rillmeterlaw12_SignedTurns.j3])
         | succ kj68 =>
          have H := HA.out
          clear HA
          simp only [rillmeterlaw12_SignedTurns.j3] at H
          by_cases c84 : x105_68 = true
          ·
           subst c84
           have H1 : (some false) = some r := by rw [if_pos rfl] at H; exact H
           clear H
           have H := H1
           clear H1
           obtain rfl := Option.some.inj H
           go_wp2
           go_ret
           exact ⟨by first | rfl | (simp [errW_none, errW_some] <;> rfl) | (simp [*, errW_none, errW_some] <;> rfl), by repeat (first | (with_reducible first | exact HB.out | apply below_alloc | apply pw_below_drewN | apply below_drew1 | refine below_set ?_ GE326.out | refine below_set ?_ GE333.out | refine below_set ?_ GE339.out) | exact HB.out)⟩
          ·
           replace c84 := Bool.eq_false_iff.mpr c84
           subst c84
           have H1 : ((rillmeterref12_Fits.f a2).bind fun t351 => (if t351 = true then ((rillmeterref12_Add.f kj68 t329 t330 a1 a2).bind fun bt353 => (if bt353.2.2 = true then (if t338 = 0 then ((rillmeterlaw12_ref.f t334 t335).bind fun bt359 => ((rillmeterref12_Equal.f kj68 bt359.1 bt359.2 bt353.1 bt353.2.1).bind fun t363 => (if t363 = true then ((rillmeterlaw12_awake.f kj68).bind fun t364 => (some t364)) else (some false)))) else (some false)) else (if t338 = 5 then (if (t335.length : Int) = 0 then ((rillmeterlaw12_awake.f kj68).bind fun t365 => (some t365)) else (some false)) else (some false)))) else (if t338 = 1 then (if (t335.length : Int) = 0 then ((rillmeterlaw12_awake.f kj68).bind fun t352 => (some t352)) else (some false)) else (some false)))) = some r := by rw [if_neg (show ¬ (false = true) by decide)] at H; exact H
           clear H
           have H := H1
           clear H1
           replace H := Option.bind_eq_some_iff.mp H
           obtain ⟨t351, A850, H⟩ := H
           replace H : (if t351 = true then ((rillmeterref12_Add.f kj68 t329 t330 a1 a2).bind fun bt353 => (if bt353.2.2 = true then (if t338 = 0 then ((rillmeterlaw12_ref.f t334 t335).bind fun bt359 => ((rillmeterref12_Equal.f kj68 bt359.1 bt359.2 bt353.1 bt353.2.1).bind fun t363 => (if t363 = true then ((rillmeterlaw12_awake.f kj68).bind fun t364 => (some t364)) else (some false)))) else (some false)) else (if t338 = 5 then (if (t335.length : Int) = 0 then ((rillmeterlaw12_awake.f kj68).bind fun t365 => (some t365)) else (some false)) else (some false)))) else (if t338 = 1 then (if (t335.length : Int) = 0 then ((rillmeterlaw12_awake.f kj68).bind fun t352 => (some t352)) else (some false)) else (some false))) = some r := H
           have A85 := Aside0.mk A850
           clear A850
           by_cases c86 : t351 = true
           ·
            subst c86
            have H1 : ((rillmeterref12_Add.f kj68 t329 t330 a1 a2).bind fun bt353 => (if bt353.2.2 = true then (if t338 = 0 then ((rillmeterlaw12_ref.f t334 t335).bind fun bt359 => ((rillmeterref12_Equal.f kj68 bt359.1 bt359.2 bt353.1 bt353.2.1).bind fun t363 => (if t363 = true then ((rillmeterlaw12_awake.f kj68).bind fun t364 => (some t364)) else (some false)))) else (some false)) else (if t338 = 5 then (if (t335.length : Int) = 0 then ((rillmeterlaw12_awake.f kj68).bind fun t365 => (some t365)) else (some false)) else (some false)))) = some r := by rw [if_pos rfl] at H; exact H
            clear H
            have H := H1
            clear H1
            replace H := Option.bind_eq_some_iff.mp H
            obtain ⟨⟨t353, t354, t357⟩, A870, H⟩ := H
            replace H : (if t357 = true then (if t338 = 0 then ((rillmeterlaw12_ref.f t334 t335).bind fun bt359 => ((rillmeterref12_Equal.f kj68 bt359.1 bt359.2 t353 t354).bind fun t363 => (if t363 = true then ((rillmeterlaw12_awake.f kj68).bind fun t364 => (some t364)) else (some false)))) else (some false)) else (if t338 = 5 then (if (t335.length : Int) = 0 then ((rillmeterlaw12_awake.f kj68).bind fun t365 => (some t365)) else (some false)) else (some false))) = some r := H
            have A87 := Aside0.mk A870
            clear A870
            by_cases c88 : t357 = true
            ·
             subst c88
             have H1 : (if t338 = 0 then ((rillmeterlaw12_ref.f t334 t335).bind fun bt359 => ((rillmeterref12_Equal.f kj68 bt359.1 bt359.2 t353 t354).bind fun t363 => (if t363 = true then ((rillmeterlaw12_awake.f kj68).bind fun t364 => (some t364)) else (some false)))) else (some false)) = some r := by rw [if_pos rfl] at H; exact H
             clear H
             have H := H1
             clear H1
             by_cases c89 : t338 = 0
             ·
              rw [if_pos c89] at H
              have c89b0 : (t338 == 0) = true := beq_iff_eq.mpr c89
              have c89b1 : (t338 != 0) = false := bne_eq_false_iff_eq.mpr c89
              clear c89
              replace H := Option.bind_eq_some_iff.mp H
              obtain ⟨⟨t359, t360⟩, A900, H⟩ := H
              replace H : ((rillmeterref12_Equal.f kj68 t359 t360 t353 t354).bind fun t363 => (if t363 = true then ((rillmeterlaw12_awake.f kj68).bind fun t364 => (some t364)) else (some false))) = some r := H
              have A90 := Aside0.mk A900
              clear A900
              replace H := Option.bind_eq_some_iff.mp H
              obtain ⟨t363, A910, H⟩ := H
              replace H : (if t363 = true then ((rillmeterlaw12_awake.f kj68).bind fun t364 => (some t364)) else (some false)) = some r := H
              have A91 := Aside0.mk A910
              clear A910
              by_cases c92 : t363 = true
              ·
               subst c92
               have H1 : ((rillmeterlaw12_awake.f kj68).bind fun t364 => (some t364)) = some r := by rw [if_pos rfl] at H; exact H
               clear H
               have H := H1
               clear H1
               replace H := Option.bind_eq_some_iff.mp H
               obtain ⟨t364, A930, H⟩ := H
               replace H : (some t364) = some r := H
               have A93 := Aside0.mk A930
               clear A930
               obtain rfl := Option.some.inj H
               try go_wp2_with (first | ((with_reducible refine gate_callee (f := 21) rfl ?_); refine goesM_ (some 107) Try.func21 #[.int .i64 a2] ?_; (with_reducible refine (rillmeterref12_Fits.calls a2 true _ A85.out).mono ?_); rintro e w' ⟨rfl, ⟨nd, rfl⟩⟩; refine ⟨_, rfl, ?_⟩; (try (rw [drewN_self wc]; generalize hq_ : World.drewN wc _ = wc; replace HO_334001 : Aside0 (Kd.V (Kd.slice 3 (Kd.int .i64)) 33 wc w.heap.size (fun k_ => some k_ ≠ (.slice Ao30 t335.length co30 : Value).ownBlock ∧ k_ ≠ gb326 ∧ k_ ≠ gb333 ∧ k_ ≠ gb339) (.slice Ao23 t330.length co23) t330) := ⟨by rw [← hq_]; exact (pV HO_334001)⟩; replace HO_340001 : Aside0 (Kd.S (Kd.slice 3 (Kd.int .i64)) 33 wc w.heap.size (fun _ => True) (.slice Ao30 t335.length co30) t335) := ⟨by rw [← hq_]; exact (pS HO_340001)⟩; replace BK326 : Aside0 (wc.heap[gb326]? = some (.cells #[.int .u64 a0_0, .slice A0_1 l0_1.length c0_1] 25 (0, 0))) := ⟨by rw [← hq_]; exact (pB BK326)⟩; replace BK333 : Aside0 (wc.heap[gb333]? = some (.cells #[.int .u64 t329, .slice Ao23 t330.length co23] 30 (0, 0))) := ⟨by rw [← hq_]; exact (pB BK333)⟩; replace BK339 : Aside0 (wc.heap[gb339]? = some (.cells #[.int .u64 t334, .slice Ao30 t335.length co30] 25 (0, 0))) := ⟨by rw [← hq_]; exact (pB BK339)⟩; replace HB : Aside0 (Below w.heap.size w wc) := ⟨by rw [← hq_]; exact (pH HB)⟩; clear hq_)); have hnb94 := NB333_326.out; have hnc94 := NB326_333.out; have hnb95 := NB333_339.out; have hnc95 := NB339_333.out; have hcz96_0 : wc.cell? ⟨gb333, 0, none⟩ = some (.int .u64 t329) := (blk_cell BK333.out 0).trans rfl; have hcz96_1 : wc.cell? ⟨gb333, 1, none⟩ = some (.slice Ao23 t330.length co23) := (blk_cell BK333.out 1).trans rfl; have hfz96_0 := blk_frozen BK333.out 0; have hfz96_1 := blk_frozen BK333.out 1) | ((with_reducible refine gate_callee (f := 22) rfl ?_); refine goesM_ (some 124) Try.func22 #[.agg #[.int .u64 t329, .slice Ao23 t330.length co23], .string a1, .int .i64 a2] ?_; (with_reducible refine (rillmeterref12_Add.calls kj68 t329 _ _ t330 a1 a2 t353 t354 true _ ?side1 ?side2 A87.out).mono ?_); (case side1 => repeat (first | exact (Kd.V_reads' HO_334001.out).2.2 | (with_reducible refine Kd.C_alloc ?_ _) | (with_reducible refine Kd.C_drewN ?_ _) | (with_reducible refine Kd.C_drew ?_))); (case side2 => exact (Kd.V_reads' HO_334001.out).2.1); rintro e w97 ⟨v355, rfl, ho0, hb⟩; refine ⟨_, rfl, ?_⟩; have HO356 := Aside0.mk (Kd.S_lower (Kd.S_new' ho0 (Kd.S_lt (pS HO_340001))) (below_size (pH HB))); replace HO_334001 := Aside0.mk (Kd.V_elder' (pV HO_334001) (Kd.S_base ho0) hb); replace HO_340001 := Aside0.mk (Kd.S_elder' (pS HO_340001) (Kd.S_base ho0) hb); replace BK326 := bB BK326 hb; replace BK333 := bB BK333 hb; replace BK339 := bB BK339 hb; replace HB := stB HB hb; (try clear hb); (try clear hb2); (try clear hk); (try clear hi); (try clear ho0)) | ((with_reducible refine gate_dst (N := 13) rfl ?_); (try (refine gate_guard (by rfl) ?_; dsimp only)); refine box_event ?hg (N := 13) ?hd (cs := #[.int .u64 0, .slice none 0 0]) (t := 30) ?hr ?_; (case hd => rfl); (case hg => rfl); (case hr => first | (go_simp; done) | (go_simp; rfl)); intro gb358 hg w98 hbox hb; have BK358 := Aside0.mk (hbox); have GW358 := geN HB hg; have GE358 := geN HB hg; have NB326_358 := neL BK326 hg; have NB358_326 := neG BK326 hg; have NB333_358 := neL BK333 hg; have NB358_333 := neG BK333 hg; have NB339_358 := neL BK339 hg; have NB358_339 := neG BK339 hg; replace HO_334001 := Aside0.mk (Kd.V_below (Kd.V_elderB (pV HO_334001) gb358 (Nat.le_of_eq hg.symm)) hb); replace HO_340001 := Aside0.mk (Kd.S_below (pS HO_340001) hb); replace HO356 := Aside0.mk (Kd.S_below (pS HO356) hb); replace BK326 := bB BK326 hb; replace BK333 := bB BK333 hb; replace BK339 := bB BK339 hb; replace HB := stB HB hb; clear hb hbox hg; have hnb99 := NB358_326.out; have hnc99 := NB326_358.out; have hnb100 := NB358_333.out; have hnc100 := NB333_358.out; have hnb101 := NB358_339.out; have hnc101 := NB339_358.out; have hcz102_0 : w98.cell? ⟨gb358, 0, none⟩ = some (.int .u64 0) := (blk_cell BK358.out 0).trans rfl; have hcz102_1 : w98.cell? ⟨gb358, 1, none⟩ = some (.slice none 0 0) := (blk_cell BK358.out 1).trans rfl; have hfz102_0 := blk_frozen BK358.out 0; have hfz102_1 := blk_frozen BK358.out 1; obtain ⟨Ao103, co103, eo103⟩ := Kd.S_slice HO356.out; subst eo103))
               have n0_ : Aside0 (Kd.V (Kd.slice 3 (Kd.int .i64)) 33 ((w98.setCell ⟨gb358, 0, none⟩ (.int .u64 t353)).setCell ⟨gb358, 1, none⟩ (.slice Ao103 t354.length co103)) w.heap.size (fun k_ => some k_ ≠ (.slice Ao30 t335.length co30 : Value).ownBlock ∧ some k_ ≠ (.slice Ao103 t354.length co103 : Value).ownBlock ∧ k_ ≠ gb326 ∧ k_ ≠ gb333 ∧ k_ ≠ gb339 ∧ k_ ≠ gb358) (.slice Ao23 t330.length co23) t330) := ⟨by exact Kd.V_mono (Kd.V_far (p := ⟨gb358, 1, none⟩) (Kd.V_far (p := ⟨gb358, 0, none⟩) (Kd.V_mono HO_334001.out (fun k_ hk => (⟨hk, hk.2⟩ : _ ∧ k_ ≠ gb358))) (fun _ hk => hk.2) (.int .u64 t353)) (fun _ hk => hk.2) (.slice Ao103 t354.length co103)) (fun _ hk => ⟨hk.1.1.1.1, ⟨hk.1.1.2, ⟨hk.1.1.1.2.1, ⟨hk.1.1.1.2.2.1, ⟨hk.1.1.1.2.2.2, hk.1.2⟩⟩⟩⟩⟩)⟩
               have n1_ : Aside0 (Kd.S (Kd.slice 3 (Kd.int .i64)) 33 ((w98.setCell ⟨gb358, 0, none⟩ (.int .u64 t353)).setCell ⟨gb358, 1, none⟩ (.slice Ao103 t354.length co103)) w.heap.size (fun k_ => some k_ ≠ (.slice Ao103 t354.length co103 : Value).ownBlock) (.slice Ao30 t335.length co30) t335) := ⟨by exact Kd.S_mono (Kd.S_far (p := ⟨gb358, 1, none⟩) (Kd.S_far (p := ⟨gb358, 0, none⟩) (Kd.S_types HO_340001.out BK358.out (by decide)) (fun _ hk => hk.2) (.int .u64 t353)) (fun _ hk => hk.2) (.slice Ao103 t354.length co103)) (fun _ hk => hk.1.2)⟩
               have n2_ : Aside0 (Kd.S (Kd.slice 3 (Kd.int .i64)) 33 ((w98.setCell ⟨gb358, 0, none⟩ (.int .u64 t353)).setCell ⟨gb358, 1, none⟩ (.slice Ao103 t354.length co103)) w.heap.size (fun k_ => some k_ ≠ (.slice Ao30 t335.length co30 : Value).ownBlock) (.slice Ao103 t354.length co103) t354) := ⟨by exact Kd.S_mono (Kd.S_far (p := ⟨gb358, 1, none⟩) (Kd.S_far (p := ⟨gb358, 0, none⟩) (Kd.S_types HO356.out BK358.out (by decide)) (fun _ hk => hk.2) (.int .u64 t353)) (fun _ hk => hk.2) (.slice Ao103 t354.length co103)) (fun _ hk => hk.1.2)⟩
               have n3_ : Aside0 (((w98.setCell ⟨gb358, 0, none⟩ (.int .u64 t353)).setCell ⟨gb358, 1, none⟩ (.slice Ao103 t354.length co103)).heap[gb326]? = some (.cells #[.int .u64 a0_0, .slice A0_1 l0_1.length c0_1] 25 (0, 0))) := ⟨by refine blk_far ?_ NB326_358.out _; refine blk_far ?_ NB326_358.out _; exact BK326.out⟩
               have n4_ : Aside0 (((w98.setCell ⟨gb358, 0, none⟩ (.int .u64 t353)).setCell ⟨gb358, 1, none⟩ (.slice Ao103 t354.length co103)).heap[gb333]? = some (.cells #[.int .u64 t329, .slice Ao23 t330.length co23] 30 (0, 0))) := ⟨by refine blk_far ?_ NB333_358.out _; refine blk_far ?_ NB333_358.out _; exact BK333.out⟩
               have n5_ : Aside0 (((w98.setCell ⟨gb358, 0, none⟩ (.int .u64 t353)).setCell ⟨gb358, 1, none⟩ (.slice Ao103 t354.length co103)).heap[gb339]? = some (.cells #[.int .u64 t334, .slice Ao30 t335.length co30] 25 (0, 0))) := ⟨by refine blk_far ?_ NB339_358.out _; refine blk_far ?_ NB339_358.out _; exact BK339.out⟩
               have n6_ : Aside0 (((w98.setCell ⟨gb358, 0, none⟩ (.int .u64 t353)).setCell ⟨gb358, 1, none⟩ (.slice Ao103 t354.length co103)).heap[gb358]? = some (.cells #[.int .u64 t353, .slice Ao103 t354.length co103] 30 (0, 0))) := ⟨by refine blk_put (cs := #[.int .u64 t353, .slice none 0 0]) ?_ 1 _ rfl; refine blk_put (cs := #[.int .u64 0, .slice none 0 0]) ?_ 0 _ rfl; exact BK358.out⟩
               have n7_ : Aside0 (Below w.heap.size w ((w98.setCell ⟨gb358, 0, none⟩ (.int .u64 t353)).setCell ⟨gb358, 1, none⟩ (.slice Ao103 t354.length co103))) := ⟨pH HB⟩
               (try clear HO_334001)
               (try clear HO_340001)
               (try clear HO356)
               (try clear BK326)
               (try clear BK333)
               (try clear BK339)
               (try clear BK358)
               (try clear HB)
               generalize ((w98.setCell ⟨gb358, 0, none⟩ (.int .u64 t353)).setCell ⟨gb358, 1, none⟩ (.slice Ao103 t354.length co103)) = w104 at n0_ n1_ n2_ n3_ n4_ n5_ n6_ n7_ ⊢
               have HO_334001 := n0_
               have HO_340001 := n1_
               have HO356 := n2_
               have BK326 := n3_
               have BK333 := n4_
               have BK339 := n5_
               have BK358 := n6_
               have HB := n7_
               clear n0_ n1_ n2_ n3_ n4_ n5_ n6_ n7_
               replace HO_334001 := Aside0.mk (Kd.V_drew HO_334001.out)
               replace HO_340001 := Aside0.mk (Kd.S_drew HO_340001.out)
               replace HO356 := Aside0.mk (Kd.S_drew HO356.out)
               replace BK326 := Aside0.mk (blk_drew BK326.out)
               replace BK333 := Aside0.mk (blk_drew BK333.out)
               replace BK339 := Aside0.mk (blk_drew BK339.out)
               replace BK358 := Aside0.mk (blk_drew BK358.out)
               replace HB := Aside0.mk (below_drew1 HB.out)
               refine start_ (n := 12) (S := fun w' => w'.cell? ⟨gb339, 0, none⟩ = some (.int .u64 t334) ∧ w'.cell? ⟨gb339, 1, none⟩ = some (.slice Ao30 t335.length co30) ∧ w'.cell? ⟨gb358, 0, none⟩ = some (.int .u64 t353) ∧ w'.cell? ⟨gb358, 1, none⟩ = some (.slice Ao103 t354.length co103)) (ds := []) #[false, false, false, false, false, false, false, false, false, false, false, false] (by kernel_rfl) rfl rfl ⟨(blk_cell BK339.out 0).trans rfl, (blk_cell BK339.out 1).trans rfl, (blk_cell BK358.out 0).trans rfl, (blk_cell BK358.out 1).trans rfl⟩ (fun hHeld => ?_); refine with_tabW rillmeterlaw12_SignedTurns.tab23 rillmeterlaw12_SignedTurns.bits23 (fun HT_ HW_ => ?_)
               generalize w104.drew = w105 at HO_334001 HO_340001 HO356 BK326 BK333 BK339 BK358 HB hHeld ⊢
               refine pure_ (i := 0) (N := some 140) (v := ?_) (a' := ?_) (mkB 12 1) rfl rfl (any_of HT_.out (by kernel_rfl)) (fun _ _ _ h => h) (Or.inl ⟨by rfl, ?_⟩) ?_ ?_
               rotate_left
               ·
                intro w'
                go_simp
                with_reducible rfl
               rotate_left
               ·
                simp only [Act.put, List.setIfInBounds_toArray, List.set_cons_zero, List.set_cons_succ, i64_w, i32_w]
                rfl
               refine pure_ (i := 1) (N := some 141) (v := ?_) (a' := ?_) (mkB 12 3) rfl rfl (any_of HT_.out (by kernel_rfl)) (fun _ _ _ h => h) (Or.inl ⟨by rfl, ?_⟩) ?_ ?_
               rotate_left
               ·
                intro w'
                go_simp
                with_reducible rfl
               rotate_left
               ·
                simp only [Act.put, List.setIfInBounds_toArray, List.set_cons_zero, List.set_cons_succ, i64_w, i32_w]
                rfl
               refine pure_ (i := 2) (N := some 142) (v := ?_) (a' := ?_) (mkB 12 7) rfl rfl (any_of HT_.out (by kernel_rfl)) (fun _ _ _ h => h) (Or.inl ⟨by rfl, ?_⟩) ?_ ?_
               rotate_left
               ·
                intro w'
                go_simp
                with_reducible rfl
               rotate_left
               ·
                simp only [Act.put, List.setIfInBounds_toArray, List.set_cons_zero, List.set_cons_succ, i64_w, i32_w]
                rfl
               refine take_ (i := 3) (N := some 143) (v := ?_) (a' := ?_) (mkB 12 15) rfl rfl (take_ofW HT_.out HW_.out (by kernel_rfl)) (fun _ _ _ h => h) (Or.inl ⟨by rfl, ?_⟩) hHeld ?_ ?_
               rotate_left
               ·
                rintro w' ⟨s0, s1, s2, s3⟩
                go_simp
                with_reducible rfl
               rotate_left
               ·
                simp only [Act.put, List.setIfInBounds_toArray, List.set_cons_zero, List.set_cons_succ, i64_w, i32_w]
                rfl
               refine take_ (i := 5) (N := some 145) (v := ?_) (a' := ?_) (mkB 12 47) rfl rfl (take_ofW HT_.out HW_.out (by kernel_rfl)) (fun _ _ _ h => h) (Or.inl ⟨by rfl, ?_⟩) hHeld ?_ ?_
               rotate_left
               ·
                rintro w' ⟨s0, s1, s2, s3⟩
                go_simp
                with_reducible rfl
               rotate_left
               ·
                simp only [Act.put, List.setIfInBounds_toArray, List.set_cons_zero, List.set_cons_succ, i64_w, i32_w]
                rfl
               refine one_ (i := 4) (N := some 144) (mkB 12 63) rfl rfl (one_of HT_.out (by kernel_rfl)) (by decide) (fun K hK => ?_)
               refine goesN_ Try.func11 #[.agg #[.int .u64 t334, .slice Ao30 t335.length co30]] ?_
               with_reducible refine (rillmeterlaw12_ref.calls t334 (fun k_ => ((((some k_ ≠ (.slice Ao103 t354.length co103 : Value).ownBlock ∧ k_ ≠ gb326) ∧ k_ ≠ gb333) ∧ k_ ≠ gb339) ∧ k_ ≠ gb358)) _ _ t335 t359 t360 _ ?side1 A90.out).mono ?_
               (case side1 => exact Kd.S_V (Kd.S_types (Kd.S_types (Kd.S_types (Kd.S_types (HO_340001.out) BK326.out (by decide)) BK333.out (by decide)) BK339.out (by decide)) BK358.out (by decide)))
               rintro e w106 ⟨v361, rfl, ho0, hb⟩
               refine ⟨_, rfl, ?_⟩
               have HO362 := Aside0.mk (Kd.V_lower (Kd.V_mono (ok' := fun k_ => some k_ ≠ (.slice Ao103 t354.length co103 : Value).ownBlock ∧ k_ ≠ gb326 ∧ k_ ≠ gb333 ∧ k_ ≠ gb339 ∧ k_ ≠ gb358) ho0 (fun k_ hk_ => ⟨Or.elim hk_ (fun hs_ => hs_.1.1.1.1) (fun hn_ => (Kd.fresh' (Kd.S_lt (pS HO356)) k_ hn_)), Or.elim hk_ (fun hs_ => hs_.1.1.1.2) (fun hn_ => (Kd.freshB (g := gb326) (o := .cells #[.int .u64 a0_0, .slice A0_1 l0_1.length c0_1] 25 (0, 0)) (pB BK326) k_ hn_)), Or.elim hk_ (fun hs_ => hs_.1.1.2) (fun hn_ => (Kd.freshB (g := gb333) (o := .cells #[.int .u64 t329, .slice Ao23 t330.length co23] 30 (0, 0)) (pB BK333) k_ hn_)), Or.elim hk_ (fun hs_ => hs_.1.2) (fun hn_ => (Kd.freshB (g := gb339) (o := .cells #[.int .u64 t334, .slice Ao30 t335.length co30] 25 (0, 0)) (pB BK339) k_ hn_)), Or.elim hk_ (fun hs_ => hs_.2) (fun hn_ => (Kd.freshB (g := gb358) (o := .cells #[.int .u64 t353, .slice Ao103 t354.length co103] 30 (0, 0)) (pB BK358) k_ hn_))⟩)) (below_size (pH HB)))
               replace HO_334001 := Aside0.mk (Kd.V_below (pV HO_334001) hb)
               replace HO_340001 := Aside0.mk (Kd.S_below (pS HO_340001) hb)
               replace HO356 := Aside0.mk (Kd.S_below (pS HO356) hb)
               replace BK326 := bB BK326 hb
               replace BK333 := bB BK333 hb
               replace BK339 := bB BK339 hb
               replace BK358 := bB BK358 hb
               replace HB := stB HB hb
               (try clear hb)
               (try clear hb2)
               (try clear hk)
               (try clear hi)
               (try clear ho0)
               obtain ⟨Ao107, co107, eo107⟩ := Kd.V_slice HO362.out
               (first | subst eo107 | (injection eo107 with f1_ f2_ f3_; have f4_ := f1_.symm; have f5_ := f3_.symm; clear f1_ f2_ f3_; subst f4_; subst f5_))
               refine hK.out _ _ ⟨(blk_cell BK339.out 0).trans rfl, (blk_cell BK339.out 1).trans rfl, (blk_cell BK358.out 0).trans rfl, (blk_cell BK358.out 1).trans rfl⟩ (fun hHeld => ?_)
               clear hK K
               refine norm_ (a' := ?_) ?_ ?_
               rotate_left
               ·
                show Act.put _ (some 144) _ = _
                simp only [Act.put, List.setIfInBounds_toArray, List.set_cons_zero, List.set_cons_succ, i64_w, i32_w]
                rfl
               refine one_ (i := 6) (N := some 146) (mkB 12 127) rfl rfl (one_of HT_.out (by kernel_rfl)) (by decide) (fun K hK => ?_)
               refine goesN_ Try.func10 #[.agg #[.int .u64 t359, .slice Ao107 t360.length co107], .agg #[.int .u64 t353, .slice Ao103 t354.length co103]] ?_
               with_reducible refine (rillmeterref12_Equal.calls kj68 t359 _ _ t360 t353 _ _ t354 true _ ?side1 ?side2 ?side3 ?side4 A91.out).mono ?_
               (case side1 => repeat (first | exact (Kd.V_reads' HO362.out).2.2 | (with_reducible refine Kd.C_alloc ?_ _) | (with_reducible refine Kd.C_drewN ?_ _) | (with_reducible refine Kd.C_drew ?_)))
               (case side2 => exact (Kd.V_reads' HO362.out).2.1)
               (case side3 => repeat (first | exact (Kd.S_reads' HO356.out).2.2 | (with_reducible refine Kd.C_alloc ?_ _) | (with_reducible refine Kd.C_drewN ?_ _) | (with_reducible refine Kd.C_drew ?_)))
               (case side4 => exact (Kd.S_reads' HO356.out).2.1)
               rintro e w108 ⟨rfl, hb⟩
               refine ⟨_, rfl, ?_⟩
               replace HO_334001 := Aside0.mk (Kd.V_below (pV HO_334001) hb)
               replace HO_340001 := Aside0.mk (Kd.S_below (pS HO_340001) hb)
               replace HO356 := Aside0.mk (Kd.S_below (pS HO356) hb)
               replace HO362 := Aside0.mk (Kd.V_below (pV HO362) hb)
               replace BK326 := bB BK326 hb
               replace BK333 := bB BK333 hb
               replace BK339 := bB BK339 hb
               replace BK358 := bB BK358 hb
               replace HB := stB HB hb
               (try clear hb)
               (try clear hb2)
               (try clear hk)
               (try clear hi)
               refine hK.out _ _ ⟨(blk_cell BK339.out 0).trans rfl, (blk_cell BK339.out 1).trans rfl, (blk_cell BK358.out 0).trans rfl, (blk_cell BK358.out 1).trans rfl⟩ (fun hHeld => ?_)
               clear hK K
               refine norm_ (a' := ?_) ?_ ?_
               rotate_left
               ·
                show Act.put _ (some 146) _ = _
                simp only [Act.put, List.setIfInBounds_toArray, List.set_cons_zero, List.set_cons_succ, i64_w, i32_w]
                rfl
               refine pure_ (i := 7) (N := some 147) (v := ?_) (a' := ?_) (mkB 12 255) rfl rfl (any_of HT_.out (by kernel_rfl)) (fun _ _ _ h => h) (Or.inl ⟨by rfl, ?_⟩) ?_ ?_
               rotate_left
               ·
                intro w'
                go_simp
                with_reducible rfl
               rotate_left
               ·
                simp only [Act.put, List.setIfInBounds_toArray, List.set_cons_zero, List.set_cons_succ, i64_w, i32_w]
                rfl
               refine pure_ (i := 8) (N := some 148) (v := ?_) (a' := ?_) (mkB 12 511) rfl rfl (any_of HT_.out (by kernel_rfl)) (fun _ _ _ h => h) (Or.inl ⟨by rfl, ?_⟩) ?_ ?_
               rotate_left
               ·
                intro w'
                go_simp
                with_reducible rfl
               rotate_left
               ·
                simp only [Act.put, List.setIfInBounds_toArray, List.set_cons_zero, List.set_cons_succ, i64_w, i32_w]
                rfl
               refine one_ (i := 9) (N := some 149) (mkB 12 1023) rfl rfl (one_of HT_.out (by kernel_rfl)) (by decide) (fun K hK => ?_)
               refine goesN_ Try.func12 #[] ?_
               with_reducible refine (rillmeterlaw12_awake.calls kj68  t364 _ A93.out).mono ?_
               rintro e w109 ⟨rfl, hb⟩
               refine ⟨_, rfl, ?_⟩
               replace HO_334001 := Aside0.mk (Kd.V_below (pV HO_334001) hb)
               replace HO_340001 := Aside0.mk (Kd.S_below (pS HO_340001) hb)
               replace HO356 := Aside0.mk (Kd.S_below (pS HO356) hb)
               replace HO362 := Aside0.mk (Kd.V_below (pV HO362) hb)
               replace BK326 := bB BK326 hb
               replace BK333 := bB BK333 hb
               replace BK339 := bB BK339 hb
               replace BK358 := bB BK358 hb
               replace HB := stB HB hb
               (try clear hb)
               (try clear hb2)
               (try clear hk)
               (try clear hi)
               refine hK.out _ _ ⟨(blk_cell BK339.out 0).trans rfl, (blk_cell BK339.out 1).trans rfl, (blk_cell BK358.out 0).trans rfl, (blk_cell BK358.out 1).trans rfl⟩ (fun hHeld => ?_)
               clear hK K
               refine norm_ (a' := ?_) ?_ ?_
               rotate_left
               ·
                show Act.put _ (some 149) _ = _
                simp only [Act.put, List.setIfInBounds_toArray, List.set_cons_zero, List.set_cons_succ, i64_w, i32_w]
                rfl
               refine pure_ (i := 10) (N := some 150) (v := ?_) (a' := ?_) (mkB 12 2047) rfl rfl (any_of HT_.out (by kernel_rfl)) (fun _ _ _ h => h) (Or.inl ⟨by rfl, ?_⟩) ?_ ?_
               rotate_left
               ·
                intro w'
                go_simp
                with_reducible rfl
               rotate_left
               ·
                simp only [Act.put, List.setIfInBounds_toArray, List.set_cons_zero, List.set_cons_succ, i64_w, i32_w]
                rfl
               refine pure_ (i := 11) (N := some 6) (v := ?_) (a' := ?_) (mkB 12 4095) rfl rfl (any_of HT_.out (by kernel_rfl)) (fun _ _ _ h => h) (Or.inl ⟨by rfl, ?_⟩) ?_ ?_
               rotate_left
               ·
                intro w'
                go_simp
                with_reducible rfl
               rotate_left
               ·
                simp only [Act.put, List.setIfInBounds_toArray, List.set_cons_zero, List.set_cons_succ, i64_w, i32_w]
                rfl
               refine done_ (done_of HT_.out (by kernel_rfl)) ?_
               try go_wp2
               go_ret
               exact ⟨by first | rfl | (simp [errW_none, errW_some] <;> rfl) | (simp [*, errW_none, errW_some] <;> rfl), by repeat (first | (with_reducible first | exact HB.out | apply below_alloc | apply pw_below_drewN | apply below_drew1 | refine below_set ?_ GE326.out | refine below_set ?_ GE333.out | refine below_set ?_ GE339.out | refine below_set ?_ GE358.out) | exact HB.out)⟩
              ·
               replace c92 := Bool.eq_false_iff.mpr c92
               subst c92
               have H1 : (some false) = some r := by rw [if_neg (show ¬ (false = true) by decide)] at H; exact H
               clear H
               have H := H1
               clear H1
               obtain rfl := Option.some.inj H
               try go_wp2_with (first | ((with_reducible refine gate_callee (f := 21) rfl ?_); refine goesM_ (some 107) Try.func21 #[.int .i64 a2] ?_; (with_reducible refine (rillmeterref12_Fits.calls a2 true _ A85.out).mono ?_); rintro e w' ⟨rfl, ⟨nd, rfl⟩⟩; refine ⟨_, rfl, ?_⟩; (try (rw [drewN_self wc]; generalize hq_ : World.drewN wc _ = wc; replace HO_334001 : Aside0 (Kd.V (Kd.slice 3 (Kd.int .i64)) 33 wc w.heap.size (fun k_ => some k_ ≠ (.slice Ao30 t335.length co30 : Value).ownBlock ∧ k_ ≠ gb326 ∧ k_ ≠ gb333 ∧ k_ ≠ gb339) (.slice Ao23 t330.length co23) t330) := ⟨by rw [← hq_]; exact (pV HO_334001)⟩; replace HO_340001 : Aside0 (Kd.S (Kd.slice 3 (Kd.int .i64)) 33 wc w.heap.size (fun _ => True) (.slice Ao30 t335.length co30) t335) := ⟨by rw [← hq_]; exact (pS HO_340001)⟩; replace BK326 : Aside0 (wc.heap[gb326]? = some (.cells #[.int .u64 a0_0, .slice A0_1 l0_1.length c0_1] 25 (0, 0))) := ⟨by rw [← hq_]; exact (pB BK326)⟩; replace BK333 : Aside0 (wc.heap[gb333]? = some (.cells #[.int .u64 t329, .slice Ao23 t330.length co23] 30 (0, 0))) := ⟨by rw [← hq_]; exact (pB BK333)⟩; replace BK339 : Aside0 (wc.heap[gb339]? = some (.cells #[.int .u64 t334, .slice Ao30 t335.length co30] 25 (0, 0))) := ⟨by rw [← hq_]; exact (pB BK339)⟩; replace HB : Aside0 (Below w.heap.size w wc) := ⟨by rw [← hq_]; exact (pH HB)⟩; clear hq_)); have hnb110 := NB333_326.out; have hnc110 := NB326_333.out; have hnb111 := NB333_339.out; have hnc111 := NB339_333.out; have hcz112_0 : wc.cell? ⟨gb333, 0, none⟩ = some (.int .u64 t329) := (blk_cell BK333.out 0).trans rfl; have hcz112_1 : wc.cell? ⟨gb333, 1, none⟩ = some (.slice Ao23 t330.length co23) := (blk_cell BK333.out 1).trans rfl; have hfz112_0 := blk_frozen BK333.out 0; have hfz112_1 := blk_frozen BK333.out 1) | ((with_reducible refine gate_callee (f := 22) rfl ?_); refine goesM_ (some 124) Try.func22 #[.agg #[.int .u64 t329, .slice Ao23 t330.length co23], .string a1, .int .i64 a2] ?_; (with_reducible refine (rillmeterref12_Add.calls kj68 t329 _ _ t330 a1 a2 t353 t354 true _ ?side1 ?side2 A87.out).mono ?_); (case side1 => repeat (first | exact (Kd.V_reads' HO_334001.out).2.2 | (with_reducible refine Kd.C_alloc ?_ _) | (with_reducible refine Kd.C_drewN ?_ _) | (with_reducible refine Kd.C_drew ?_))); (case side2 => exact (Kd.V_reads' HO_334001.out).2.1); rintro e w113 ⟨v355, rfl, ho0, hb⟩; refine ⟨_, rfl, ?_⟩; have HO356 := Aside0.mk (Kd.S_lower (Kd.S_new' ho0 (Kd.S_lt (pS HO_340001))) (below_size (pH HB))); replace HO_334001 := Aside0.mk (Kd.V_elder' (pV HO_334001) (Kd.S_base ho0) hb); replace HO_340001 := Aside0.mk (Kd.S_elder' (pS HO_340001) (Kd.S_base ho0) hb); replace BK326 := bB BK326 hb; replace BK333 := bB BK333 hb; replace BK339 := bB BK339 hb; replace HB := stB HB hb; (try clear hb); (try clear hb2); (try clear hk); (try clear hi); (try clear ho0)) | ((with_reducible refine gate_dst (N := 13) rfl ?_); (try (refine gate_guard (by rfl) ?_; dsimp only)); refine box_event ?hg (N := 13) ?hd (cs := #[.int .u64 0, .slice none 0 0]) (t := 30) ?hr ?_; (case hd => rfl); (case hg => rfl); (case hr => first | (go_simp; done) | (go_simp; rfl)); intro gb358 hg w114 hbox hb; have BK358 := Aside0.mk (hbox); have GW358 := geN HB hg; have GE358 := geN HB hg; have NB326_358 := neL BK326 hg; have NB358_326 := neG BK326 hg; have NB333_358 := neL BK333 hg; have NB358_333 := neG BK333 hg; have NB339_358 := neL BK339 hg; have NB358_339 := neG BK339 hg; replace HO_334001 := Aside0.mk (Kd.V_below (Kd.V_elderB (pV HO_334001) gb358 (Nat.le_of_eq hg.symm)) hb); replace HO_340001 := Aside0.mk (Kd.S_below (pS HO_340001) hb); replace HO356 := Aside0.mk (Kd.S_below (pS HO356) hb); replace BK326 := bB BK326 hb; replace BK333 := bB BK333 hb; replace BK339 := bB BK339 hb; replace HB := stB HB hb; clear hb hbox hg; have hnb115 := NB358_326.out; have hnc115 := NB326_358.out; have hnb116 := NB358_333.out; have hnc116 := NB333_358.out; have hnb117 := NB358_339.out; have hnc117 := NB339_358.out; have hcz118_0 : w114.cell? ⟨gb358, 0, none⟩ = some (.int .u64 0) := (blk_cell BK358.out 0).trans rfl; have hcz118_1 : w114.cell? ⟨gb358, 1, none⟩ = some (.slice none 0 0) := (blk_cell BK358.out 1).trans rfl; have hfz118_0 := blk_frozen BK358.out 0; have hfz118_1 := blk_frozen BK358.out 1; obtain ⟨Ao119, co119, eo119⟩ := Kd.S_slice HO356.out; subst eo119))
               have n0_ : Aside0 (Kd.V (Kd.slice 3 (Kd.int .i64)) 33 ((w114.setCell ⟨gb358, 0, none⟩ (.int .u64 t353)).setCell ⟨gb358, 1, none⟩ (.slice Ao119 t354.length co119)) w.heap.size (fun k_ => some k_ ≠ (.slice Ao30 t335.length co30 : Value).ownBlock ∧ some k_ ≠ (.slice Ao119 t354.length co119 : Value).ownBlock ∧ k_ ≠ gb326 ∧ k_ ≠ gb333 ∧ k_ ≠ gb339 ∧ k_ ≠ gb358) (.slice Ao23 t330.length co23) t330) := ⟨by exact Kd.V_mono (Kd.V_far (p := ⟨gb358, 1, none⟩) (Kd.V_far (p := ⟨gb358, 0, none⟩) (Kd.V_mono HO_334001.out (fun k_ hk => (⟨hk, hk.2⟩ : _ ∧ k_ ≠ gb358))) (fun _ hk => hk.2) (.int .u64 t353)) (fun _ hk => hk.2) (.slice Ao119 t354.length co119)) (fun _ hk => ⟨hk.1.1.1.1, ⟨hk.1.1.2, ⟨hk.1.1.1.2.1, ⟨hk.1.1.1.2.2.1, ⟨hk.1.1.1.2.2.2, hk.1.2⟩⟩⟩⟩⟩)⟩
               have n1_ : Aside0 (Kd.S (Kd.slice 3 (Kd.int .i64)) 33 ((w114.setCell ⟨gb358, 0, none⟩ (.int .u64 t353)).setCell ⟨gb358, 1, none⟩ (.slice Ao119 t354.length co119)) w.heap.size (fun k_ => some k_ ≠ (.slice Ao119 t354.length co119 : Value).ownBlock) (.slice Ao30 t335.length co30) t335) := ⟨by exact Kd.S_mono (Kd.S_far (p := ⟨gb358, 1, none⟩) (Kd.S_far (p := ⟨gb358, 0, none⟩) (Kd.S_types HO_340001.out BK358.out (by decide)) (fun _ hk => hk.2) (.int .u64 t353)) (fun _ hk => hk.2) (.slice Ao119 t354.length co119)) (fun _ hk => hk.1.2)⟩
               have n2_ : Aside0 (Kd.S (Kd.slice 3 (Kd.int .i64)) 33 ((w114.setCell ⟨gb358, 0, none⟩ (.int .u64 t353)).setCell ⟨gb358, 1, none⟩ (.slice Ao119 t354.length co119)) w.heap.size (fun k_ => some k_ ≠ (.slice Ao30 t335.length co30 : Value).ownBlock) (.slice Ao119 t354.length co119) t354) := ⟨by exact Kd.S_mono (Kd.S_far (p := ⟨gb358, 1, none⟩) (Kd.S_far (p := ⟨gb358, 0, none⟩) (Kd.S_types HO356.out BK358.out (by decide)) (fun _ hk => hk.2) (.int .u64 t353)) (fun _ hk => hk.2) (.slice Ao119 t354.length co119)) (fun _ hk => hk.1.2)⟩
               have n3_ : Aside0 (((w114.setCell ⟨gb358, 0, none⟩ (.int .u64 t353)).setCell ⟨gb358, 1, none⟩ (.slice Ao119 t354.length co119)).heap[gb326]? = some (.cells #[.int .u64 a0_0, .slice A0_1 l0_1.length c0_1] 25 (0, 0))) := ⟨by refine blk_far ?_ NB326_358.out _; refine blk_far ?_ NB326_358.out _; exact BK326.out⟩
               have n4_ : Aside0 (((w114.setCell ⟨gb358, 0, none⟩ (.int .u64 t353)).setCell ⟨gb358, 1, none⟩ (.slice Ao119 t354.length co119)).heap[gb333]? = some (.cells #[.int .u64 t329, .slice Ao23 t330.length co23] 30 (0, 0))) := ⟨by refine blk_far ?_ NB333_358.out _; refine blk_far ?_ NB333_358.out _; exact BK333.out⟩
               have n5_ : Aside0 (((w114.setCell ⟨gb358, 0, none⟩ (.int .u64 t353)).setCell ⟨gb358, 1, none⟩ (.slice Ao119 t354.length co119)).heap[gb339]? = some (.cells #[.int .u64 t334, .slice Ao30 t335.length co30] 25 (0, 0))) := ⟨by refine blk_far ?_ NB339_358.out _; refine blk_far ?_ NB339_358.out _; exact BK339.out⟩
               have n6_ : Aside0 (((w114.setCell ⟨gb358, 0, none⟩ (.int .u64 t353)).setCell ⟨gb358, 1, none⟩ (.slice Ao119 t354.length co119)).heap[gb358]? = some (.cells #[.int .u64 t353, .slice Ao119 t354.length co119] 30 (0, 0))) := ⟨by refine blk_put (cs := #[.int .u64 t353, .slice none 0 0]) ?_ 1 _ rfl; refine blk_put (cs := #[.int .u64 0, .slice none 0 0]) ?_ 0 _ rfl; exact BK358.out⟩
               have n7_ : Aside0 (Below w.heap.size w ((w114.setCell ⟨gb358, 0, none⟩ (.int .u64 t353)).setCell ⟨gb358, 1, none⟩ (.slice Ao119 t354.length co119))) := ⟨pH HB⟩
               (try clear HO_334001)
               (try clear HO_340001)
               (try clear HO356)
               (try clear BK326)
               (try clear BK333)
               (try clear BK339)
               (try clear BK358)
               (try clear HB)
               generalize ((w114.setCell ⟨gb358, 0, none⟩ (.int .u64 t353)).setCell ⟨gb358, 1, none⟩ (.slice Ao119 t354.length co119)) = w120 at n0_ n1_ n2_ n3_ n4_ n5_ n6_ n7_ ⊢
               have HO_334001 := n0_
               have HO_340001 := n1_
               have HO356 := n2_
               have BK326 := n3_
               have BK333 := n4_
               have BK339 := n5_
               have BK358 := n6_
               have HB := n7_
               clear n0_ n1_ n2_ n3_ n4_ n5_ n6_ n7_
               replace HO_334001 := Aside0.mk (Kd.V_drew HO_334001.out)
               replace HO_340001 := Aside0.mk (Kd.S_drew HO_340001.out)
               replace HO356 := Aside0.mk (Kd.S_drew HO356.out)
               replace BK326 := Aside0.mk (blk_drew BK326.out)
               replace BK333 := Aside0.mk (blk_drew BK333.out)
               replace BK339 := Aside0.mk (blk_drew BK339.out)
               replace BK358 := Aside0.mk (blk_drew BK358.out)
               replace HB := Aside0.mk (below_drew1 HB.out)
               refine start_ (n := 12) (S := fun w' => w'.cell? ⟨gb339, 0, none⟩ = some (.int .u64 t334) ∧ w'.cell? ⟨gb339, 1, none⟩ = some (.slice Ao30 t335.length co30) ∧ w'.cell? ⟨gb358, 0, none⟩ = some (.int .u64 t353) ∧ w'.cell? ⟨gb358, 1, none⟩ = some (.slice Ao119 t354.length co119)) (ds := []) #[false, false, false, false, false, false, false, false, false, false, false, false] (by kernel_rfl) rfl rfl ⟨(blk_cell BK339.out 0).trans rfl, (blk_cell BK339.out 1).trans rfl, (blk_cell BK358.out 0).trans rfl, (blk_cell BK358.out 1).trans rfl⟩ (fun hHeld => ?_); refine with_tabW rillmeterlaw12_SignedTurns.tab23 rillmeterlaw12_SignedTurns.bits23 (fun HT_ HW_ => ?_)
               generalize w120.drew = w121 at HO_334001 HO_340001 HO356 BK326 BK333 BK339 BK358 HB hHeld ⊢
               refine pure_ (i := 0) (N := some 140) (v := ?_) (a' := ?_) (mkB 12 1) rfl rfl (any_of HT_.out (by kernel_rfl)) (fun _ _ _ h => h) (Or.inl ⟨by rfl, ?_⟩) ?_ ?_
               rotate_left
               ·
                intro w'
                go_simp
                with_reducible rfl
               rotate_left
               ·
                simp only [Act.put, List.setIfInBounds_toArray, List.set_cons_zero, List.set_cons_succ, i64_w, i32_w]
                rfl
               refine pure_ (i := 1) (N := some 141) (v := ?_) (a' := ?_) (mkB 12 3) rfl rfl (any_of HT_.out (by kernel_rfl)) (fun _ _ _ h => h) (Or.inl ⟨by rfl, ?_⟩) ?_ ?_
               rotate_left
               ·
                intro w'
                go_simp
                with_reducible rfl
               rotate_left
               ·
                simp only [Act.put, List.setIfInBounds_toArray, List.set_cons_zero, List.set_cons_succ, i64_w, i32_w]
                rfl
               refine pure_ (i := 2) (N := some 142) (v := ?_) (a' := ?_) (mkB 12 7) rfl rfl (any_of HT_.out (by kernel_rfl)) (fun _ _ _ h => h) (Or.inl ⟨by rfl, ?_⟩) ?_ ?_
               rotate_left
               ·
                intro w'
                go_simp
                with_reducible rfl
               rotate_left
               ·
                simp only [Act.put, List.setIfInBounds_toArray, List.set_cons_zero, List.set_cons_succ, i64_w, i32_w]
                rfl
               refine take_ (i := 3) (N := some 143) (v := ?_) (a' := ?_) (mkB 12 15) rfl rfl (take_ofW HT_.out HW_.out (by kernel_rfl)) (fun _ _ _ h => h) (Or.inl ⟨by rfl, ?_⟩) hHeld ?_ ?_
               rotate_left
               ·
                rintro w' ⟨s0, s1, s2, s3⟩
                go_simp
                with_reducible rfl
               rotate_left
               ·
                simp only [Act.put, List.setIfInBounds_toArray, List.set_cons_zero, List.set_cons_succ, i64_w, i32_w]
                rfl
               refine take_ (i := 5) (N := some 145) (v := ?_) (a' := ?_) (mkB 12 47) rfl rfl (take_ofW HT_.out HW_.out (by kernel_rfl)) (fun _ _ _ h => h) (Or.inl ⟨by rfl, ?_⟩) hHeld ?_ ?_
               rotate_left
               ·
                rintro w' ⟨s0, s1, s2, s3⟩
                go_simp
                with_reducible rfl
               rotate_left
               ·
                simp only [Act.put, List.setIfInBounds_toArray, List.set_cons_zero, List.set_cons_succ, i64_w, i32_w]
                rfl
               refine one_ (i := 4) (N := some 144) (mkB 12 63) rfl rfl (one_of HT_.out (by kernel_rfl)) (by decide) (fun K hK => ?_)
               refine goesN_ Try.func11 #[.agg #[.int .u64 t334, .slice Ao30 t335.length co30]] ?_
               with_reducible refine (rillmeterlaw12_ref.calls t334 (fun k_ => ((((some k_ ≠ (.slice Ao119 t354.length co119 : Value).ownBlock ∧ k_ ≠ gb326) ∧ k_ ≠ gb333) ∧ k_ ≠ gb339) ∧ k_ ≠ gb358)) _ _ t335 t359 t360 _ ?side1 A90.out).mono ?_
               (case side1 => exact Kd.S_V (Kd.S_types (Kd.S_types (Kd.S_types (Kd.S_types (HO_340001.out) BK326.out (by decide)) BK333.out (by decide)) BK339.out (by decide)) BK358.out (by decide)))
               rintro e w122 ⟨v361, rfl, ho0, hb⟩
               refine ⟨_, rfl, ?_⟩
               have HO362 := Aside0.mk (Kd.V_lower (Kd.V_mono (ok' := fun k_ => some k_ ≠ (.slice Ao119 t354.length co119 : Value).ownBlock ∧ k_ ≠ gb326 ∧ k_ ≠ gb333 ∧ k_ ≠ gb339 ∧ k_ ≠ gb358) ho0 (fun k_ hk_ => ⟨Or.elim hk_ (fun hs_ => hs_.1.1.1.1) (fun hn_ => (Kd.fresh' (Kd.S_lt (pS HO356)) k_ hn_)), Or.elim hk_ (fun hs_ => hs_.1.1.1.2) (fun hn_ => (Kd.freshB (g := gb326) (o := .cells #[.int .u64 a0_0, .slice A0_1 l0_1.length c0_1] 25 (0, 0)) (pB BK326) k_ hn_)), Or.elim hk_ (fun hs_ => hs_.1.1.2) (fun hn_ => (Kd.freshB (g := gb333) (o := .cells #[.int .u64 t329, .slice Ao23 t330.length co23] 30 (0, 0)) (pB BK333) k_ hn_)), Or.elim hk_ (fun hs_ => hs_.1.2) (fun hn_ => (Kd.freshB (g := gb339) (o := .cells #[.int .u64 t334, .slice Ao30 t335.length co30] 25 (0, 0)) (pB BK339) k_ hn_)), Or.elim hk_ (fun hs_ => hs_.2) (fun hn_ => (Kd.freshB (g := gb358) (o := .cells #[.int .u64 t353, .slice Ao119 t354.length co119] 30 (0, 0)) (pB BK358) k_ hn_))⟩)) (below_size (pH HB)))
               replace HO_334001 := Aside0.mk (Kd.V_below (pV HO_334001) hb)
               replace HO_340001 := Aside0.mk (Kd.S_below (pS HO_340001) hb)
               replace HO356 := Aside0.mk (Kd.S_below (pS HO356) hb)
               replace BK326 := bB BK326 hb
               replace BK333 := bB BK333 hb
               replace BK339 := bB BK339 hb
               replace BK358 := bB BK358 hb
               replace HB := stB HB hb
               (try clear hb)
               (try clear hb2)
               (try clear hk)
               (try clear hi)
               (try clear ho0)
               obtain ⟨Ao123, co123, eo123⟩ := Kd.V_slice HO362.out
               (first | subst eo123 | (injection eo123 with f1_ f2_ f3_; have f4_ := f1_.symm; have f5_ := f3_.symm; clear f1_ f2_ f3_; subst f4_; subst f5_))
               refine hK.out _ _ ⟨(blk_cell BK339.out 0).trans rfl, (blk_cell BK339.out 1).trans rfl, (blk_cell BK358.out 0).trans rfl, (blk_cell BK358.out 1).trans rfl⟩ (fun hHeld => ?_)
               clear hK K
               refine norm_ (a' := ?_) ?_ ?_
               rotate_left
               ·
                show Act.put _ (some 144) _ = _
                simp only [Act.put, List.setIfInBounds_toArray, List.set_cons_zero, List.set_cons_succ, i64_w, i32_w]
                rfl
               refine one_ (i := 6) (N := some 146) (mkB 12 127) rfl rfl (one_of HT_.out (by kernel_rfl)) (by decide) (fun K hK => ?_)
               refine goesN_ Try.func10 #[.agg #[.int .u64 t359, .slice Ao123 t360.length co123], .agg #[.int .u64 t353, .slice Ao119 t354.length co119]] ?_
               with_reducible refine (rillmeterref12_Equal.calls kj68 t359 _ _ t360 t353 _ _ t354 false _ ?side1 ?side2 ?side3 ?side4 A91.out).mono ?_
               (case side1 => repeat (first | exact (Kd.V_reads' HO362.out).2.2 | (with_reducible refine Kd.C_alloc ?_ _) | (with_reducible refine Kd.C_drewN ?_ _) | (with_reducible refine Kd.C_drew ?_)))
               (case side2 => exact (Kd.V_reads' HO362.out).2.1)
               (case side3 => repeat (first | exact (Kd.S_reads' HO356.out).2.2 | (with_reducible refine Kd.C_alloc ?_ _) | (with_reducible refine Kd.C_drewN ?_ _) | (with_reducible refine Kd.C_drew ?_)))
               (case side4 => exact (Kd.S_reads' HO356.out).2.1)
               rintro e w124 ⟨rfl, hb⟩
               refine ⟨_, rfl, ?_⟩
               replace HO_334001 := Aside0.mk (Kd.V_below (pV HO_334001) hb)
               replace HO_340001 := Aside0.mk (Kd.S_below (pS HO_340001) hb)
               replace HO356 := Aside0.mk (Kd.S_below (pS HO356) hb)
               replace HO362 := Aside0.mk (Kd.V_below (pV HO362) hb)
               replace BK326 := bB BK326 hb
               replace BK333 := bB BK333 hb
               replace BK339 := bB BK339 hb
               replace BK358 := bB BK358 hb
               replace HB := stB HB hb
               (try clear hb)
               (try clear hb2)
               (try clear hk)
               (try clear hi)
               refine hK.out _ _ ⟨(blk_cell BK339.out 0).trans rfl, (blk_cell BK339.out 1).trans rfl, (blk_cell BK358.out 0).trans rfl, (blk_cell BK358.out 1).trans rfl⟩ (fun hHeld => ?_)
               clear hK K
               refine norm_ (a' := ?_) ?_ ?_
               rotate_left
               ·
                show Act.put _ (some 146) _ = _
                simp only [Act.put, List.setIfInBounds_toArray, List.set_cons_zero, List.set_cons_succ, i64_w, i32_w]
                rfl
               refine pure_ (i := 7) (N := some 147) (v := ?_) (a' := ?_) (mkB 12 255) rfl rfl (any_of HT_.out (by kernel_rfl)) (fun _ _ _ h => h) (Or.inl ⟨by rfl, ?_⟩) ?_ ?_
               rotate_left
               ·
                intro w'
                go_simp
                with_reducible rfl
               rotate_left
               ·
                simp only [Act.put, List.setIfInBounds_toArray, List.set_cons_zero, List.set_cons_succ, i64_w, i32_w]
                rfl
               refine pure_ (i := 8) (N := some 148) (v := ?_) (a' := ?_) (mkB 12 511) rfl rfl (any_of HT_.out (by kernel_rfl)) (fun _ _ _ h => h) (Or.inl ⟨by rfl, ?_⟩) ?_ ?_
               rotate_left
               ·
                intro w'
                go_simp
                with_reducible rfl
               rotate_left
               ·
                simp only [Act.put, List.setIfInBounds_toArray, List.set_cons_zero, List.set_cons_succ, i64_w, i32_w]
                rfl
               refine pure_ (i := 9) (N := some 149) (v := undef) (a' := ?_) (mkB 12 1023) rfl rfl (any_of HT_.out (by kernel_rfl)) (fun _ _ _ h => h) (Or.inr ⟨by rfl, rfl⟩) ?_ ?_
               rotate_left
               ·
                simp only [Act.put, List.setIfInBounds_toArray, List.set_cons_zero, List.set_cons_succ, i64_w, i32_w]
                rfl
               refine pure_ (i := 10) (N := some 150) (v := ?_) (a' := ?_) (mkB 12 2047) rfl rfl (any_of HT_.out (by kernel_rfl)) (fun _ _ _ h => h) (Or.inl ⟨by rfl, ?_⟩) ?_ ?_
               rotate_left
               ·
                intro w'
                go_simp
                with_reducible rfl
               rotate_left
               ·
                simp only [Act.put, List.setIfInBounds_toArray, List.set_cons_zero, List.set_cons_succ, i64_w, i32_w]
                rfl
               refine pure_ (i := 11) (N := some 6) (v := ?_) (a' := ?_) (mkB 12 4095) rfl rfl (any_of HT_.out (by kernel_rfl)) (fun _ _ _ h => h) (Or.inl ⟨by rfl, ?_⟩) ?_ ?_
               rotate_left
               ·
                intro w'
                go_simp
                with_reducible rfl
               rotate_left
               ·
                simp only [Act.put, List.setIfInBounds_toArray, List.set_cons_zero, List.set_cons_succ, i64_w, i32_w]
                rfl
               refine done_ (done_of HT_.out (by kernel_rfl)) ?_
               try go_wp2
               go_ret
               exact ⟨by first | rfl | (simp [errW_none, errW_some] <;> rfl) | (simp [*, errW_none, errW_some] <;> rfl), by repeat (first | (with_reducible first | exact HB.out | apply below_alloc | apply pw_below_drewN | apply below_drew1 | refine below_set ?_ GE326.out | refine below_set ?_ GE333.out | refine below_set ?_ GE339.out | refine below_set ?_ GE358.out) | exact HB.out)⟩
             ·
              rw [if_neg c89] at H
              have c89b0 : (t338 == 0) = false := beq_eq_false_iff_ne.mpr c89
              have c89b1 : (t338 != 0) = true := bne_iff_ne.mpr c89
              obtain rfl := Option.some.inj H
              try go_wp2_with (first | ((with_reducible refine gate_callee (f := 21) rfl ?_); refine goesM_ (some 107) Try.func21 #[.int .i64 a2] ?_; (with_reducible refine (rillmeterref12_Fits.calls a2 true _ A85.out).mono ?_); rintro e w' ⟨rfl, ⟨nd, rfl⟩⟩; refine ⟨_, rfl, ?_⟩; (try (rw [drewN_self wc]; generalize hq_ : World.drewN wc _ = wc; replace HO_334001 : Aside0 (Kd.V (Kd.slice 3 (Kd.int .i64)) 33 wc w.heap.size (fun k_ => some k_ ≠ (.slice Ao30 t335.length co30 : Value).ownBlock ∧ k_ ≠ gb326 ∧ k_ ≠ gb333 ∧ k_ ≠ gb339) (.slice Ao23 t330.length co23) t330) := ⟨by rw [← hq_]; exact (pV HO_334001)⟩; replace HO_340001 : Aside0 (Kd.S (Kd.slice 3 (Kd.int .i64)) 33 wc w.heap.size (fun _ => True) (.slice Ao30 t335.length co30) t335) := ⟨by rw [← hq_]; exact (pS HO_340001)⟩; replace BK326 : Aside0 (wc.heap[gb326]? = some (.cells #[.int .u64 a0_0, .slice A0_1 l0_1.length c0_1] 25 (0, 0))) := ⟨by rw [← hq_]; exact (pB BK326)⟩; replace BK333 : Aside0 (wc.heap[gb333]? = some (.cells #[.int .u64 t329, .slice Ao23 t330.length co23] 30 (0, 0))) := ⟨by rw [← hq_]; exact (pB BK333)⟩; replace BK339 : Aside0 (wc.heap[gb339]? = some (.cells #[.int .u64 t334, .slice Ao30 t335.length co30] 25 (0, 0))) := ⟨by rw [← hq_]; exact (pB BK339)⟩; replace HB : Aside0 (Below w.heap.size w wc) := ⟨by rw [← hq_]; exact (pH HB)⟩; clear hq_)); have hnb125 := NB333_326.out; have hnc125 := NB326_333.out; have hnb126 := NB333_339.out; have hnc126 := NB339_333.out; have hcz127_0 : wc.cell? ⟨gb333, 0, none⟩ = some (.int .u64 t329) := (blk_cell BK333.out 0).trans rfl; have hcz127_1 : wc.cell? ⟨gb333, 1, none⟩ = some (.slice Ao23 t330.length co23) := (blk_cell BK333.out 1).trans rfl; have hfz127_0 := blk_frozen BK333.out 0; have hfz127_1 := blk_frozen BK333.out 1) | ((with_reducible refine gate_callee (f := 22) rfl ?_); refine goesM_ (some 124) Try.func22 #[.agg #[.int .u64 t329, .slice Ao23 t330.length co23], .string a1, .int .i64 a2] ?_; (with_reducible refine (rillmeterref12_Add.calls kj68 t329 _ _ t330 a1 a2 t353 t354 true _ ?side1 ?side2 A87.out).mono ?_); (case side1 => repeat (first | exact (Kd.V_reads' HO_334001.out).2.2 | (with_reducible refine Kd.C_alloc ?_ _) | (with_reducible refine Kd.C_drewN ?_ _) | (with_reducible refine Kd.C_drew ?_))); (case side2 => exact (Kd.V_reads' HO_334001.out).2.1); rintro e w128 ⟨v355, rfl, ho0, hb⟩; refine ⟨_, rfl, ?_⟩; have HO356 := Aside0.mk (Kd.S_lower (Kd.S_new' ho0 (Kd.S_lt (pS HO_340001))) (below_size (pH HB))); replace HO_334001 := Aside0.mk (Kd.V_elder' (pV HO_334001) (Kd.S_base ho0) hb); replace HO_340001 := Aside0.mk (Kd.S_elder' (pS HO_340001) (Kd.S_base ho0) hb); replace BK326 := bB BK326 hb; replace BK333 := bB BK333 hb; replace BK339 := bB BK339 hb; replace HB := stB HB hb; (try clear hb); (try clear hb2); (try clear hk); (try clear hi); (try clear ho0)) | ((with_reducible refine gate_dst (N := 13) rfl ?_); (try (refine gate_guard (by rfl) ?_; dsimp only)); refine box_event ?hg (N := 13) ?hd (cs := #[.int .u64 0, .slice none 0 0]) (t := 30) ?hr ?_; (case hd => rfl); (case hg => rfl); (case hr => first | (go_simp; done) | (go_simp; rfl)); intro gb358 hg w129 hbox hb; have BK358 := Aside0.mk (hbox); have GW358 := geN HB hg; have GE358 := geN HB hg; have NB326_358 := neL BK326 hg; have NB358_326 := neG BK326 hg; have NB333_358 := neL BK333 hg; have NB358_333 := neG BK333 hg; have NB339_358 := neL BK339 hg; have NB358_339 := neG BK339 hg; replace HO_334001 := Aside0.mk (Kd.V_below (Kd.V_elderB (pV HO_334001) gb358 (Nat.le_of_eq hg.symm)) hb); replace HO_340001 := Aside0.mk (Kd.S_below (pS HO_340001) hb); replace HO356 := Aside0.mk (Kd.S_below (pS HO356) hb); replace BK326 := bB BK326 hb; replace BK333 := bB BK333 hb; replace BK339 := bB BK339 hb; replace HB := stB HB hb; clear hb hbox hg; have hnb130 := NB358_326.out; have hnc130 := NB326_358.out; have hnb131 := NB358_333.out; have hnc131 := NB333_358.out; have hnb132 := NB358_339.out; have hnc132 := NB339_358.out; have hcz133_0 : w129.cell? ⟨gb358, 0, none⟩ = some (.int .u64 0) := (blk_cell BK358.out 0).trans rfl; have hcz133_1 : w129.cell? ⟨gb358, 1, none⟩ = some (.slice none 0 0) := (blk_cell BK358.out 1).trans rfl; have hfz133_0 := blk_frozen BK358.out 0; have hfz133_1 := blk_frozen BK358.out 1; obtain ⟨Ao134, co134, eo134⟩ := Kd.S_slice HO356.out; subst eo134))
              have n0_ : Aside0 (Kd.V (Kd.slice 3 (Kd.int .i64)) 33 ((w129.setCell ⟨gb358, 0, none⟩ (.int .u64 t353)).setCell ⟨gb358, 1, none⟩ (.slice Ao134 t354.length co134)) w.heap.size (fun k_ => some k_ ≠ (.slice Ao30 t335.length co30 : Value).ownBlock ∧ some k_ ≠ (.slice Ao134 t354.length co134 : Value).ownBlock ∧ k_ ≠ gb326 ∧ k_ ≠ gb333 ∧ k_ ≠ gb339 ∧ k_ ≠ gb358) (.slice Ao23 t330.length co23) t330) := ⟨by exact Kd.V_mono (Kd.V_far (p := ⟨gb358, 1, none⟩) (Kd.V_far (p := ⟨gb358, 0, none⟩) (Kd.V_mono HO_334001.out (fun k_ hk => (⟨hk, hk.2⟩ : _ ∧ k_ ≠ gb358))) (fun _ hk => hk.2) (.int .u64 t353)) (fun _ hk => hk.2) (.slice Ao134 t354.length co134)) (fun _ hk => ⟨hk.1.1.1.1, ⟨hk.1.1.2, ⟨hk.1.1.1.2.1, ⟨hk.1.1.1.2.2.1, ⟨hk.1.1.1.2.2.2, hk.1.2⟩⟩⟩⟩⟩)⟩
              have n1_ : Aside0 (Kd.S (Kd.slice 3 (Kd.int .i64)) 33 ((w129.setCell ⟨gb358, 0, none⟩ (.int .u64 t353)).setCell ⟨gb358, 1, none⟩ (.slice Ao134 t354.length co134)) w.heap.size (fun k_ => some k_ ≠ (.slice Ao134 t354.length co134 : Value).ownBlock) (.slice Ao30 t335.length co30) t335) := ⟨by exact Kd.S_mono (Kd.S_far (p := ⟨gb358, 1, none⟩) (Kd.S_far (p := ⟨gb358, 0, none⟩) (Kd.S_types HO_340001.out BK358.out (by decide)) (fun _ hk => hk.2) (.int .u64 t353)) (fun _ hk => hk.2) (.slice Ao134 t354.length co134)) (fun _ hk => hk.1.2)⟩
              have n2_ : Aside0 (Kd.S (Kd.slice 3 (Kd.int .i64)) 33 ((w129.setCell ⟨gb358, 0, none⟩ (.int .u64 t353)).setCell ⟨gb358, 1, none⟩ (.slice Ao134 t354.length co134)) w.heap.size (fun k_ => some k_ ≠ (.slice Ao30 t335.length co30 : Value).ownBlock) (.slice Ao134 t354.length co134) t354) := ⟨by exact Kd.S_mono (Kd.S_far (p := ⟨gb358, 1, none⟩) (Kd.S_far (p := ⟨gb358, 0, none⟩) (Kd.S_types HO356.out BK358.out (by decide)) (fun _ hk => hk.2) (.int .u64 t353)) (fun _ hk => hk.2) (.slice Ao134 t354.length co134)) (fun _ hk => hk.1.2)⟩
              have n3_ : Aside0 (((w129.setCell ⟨gb358, 0, none⟩ (.int .u64 t353)).setCell ⟨gb358, 1, none⟩ (.slice Ao134 t354.length co134)).heap[gb326]? = some (.cells #[.int .u64 a0_0, .slice A0_1 l0_1.length c0_1] 25 (0, 0))) := ⟨by refine blk_far ?_ NB326_358.out _; refine blk_far ?_ NB326_358.out _; exact BK326.out⟩
              have n4_ : Aside0 (((w129.setCell ⟨gb358, 0, none⟩ (.int .u64 t353)).setCell ⟨gb358, 1, none⟩ (.slice Ao134 t354.length co134)).heap[gb333]? = some (.cells #[.int .u64 t329, .slice Ao23 t330.length co23] 30 (0, 0))) := ⟨by refine blk_far ?_ NB333_358.out _; refine blk_far ?_ NB333_358.out _; exact BK333.out⟩
              have n5_ : Aside0 (((w129.setCell ⟨gb358, 0, none⟩ (.int .u64 t353)).setCell ⟨gb358, 1, none⟩ (.slice Ao134 t354.length co134)).heap[gb339]? = some (.cells #[.int .u64 t334, .slice Ao30 t335.length co30] 25 (0, 0))) := ⟨by refine blk_far ?_ NB339_358.out _; refine blk_far ?_ NB339_358.out _; exact BK339.out⟩
              have n6_ : Aside0 (((w129.setCell ⟨gb358, 0, none⟩ (.int .u64 t353)).setCell ⟨gb358, 1, none⟩ (.slice Ao134 t354.length co134)).heap[gb358]? = some (.cells #[.int .u64 t353, .slice Ao134 t354.length co134] 30 (0, 0))) := ⟨by refine blk_put (cs := #[.int .u64 t353, .slice none 0 0]) ?_ 1 _ rfl; refine blk_put (cs := #[.int .u64 0, .slice none 0 0]) ?_ 0 _ rfl; exact BK358.out⟩
              have n7_ : Aside0 (Below w.heap.size w ((w129.setCell ⟨gb358, 0, none⟩ (.int .u64 t353)).setCell ⟨gb358, 1, none⟩ (.slice Ao134 t354.length co134))) := ⟨pH HB⟩
              (try clear HO_334001)
              (try clear HO_340001)
              (try clear HO356)
              (try clear BK326)
              (try clear BK333)
              (try clear BK339)
              (try clear BK358)
              (try clear HB)
              generalize ((w129.setCell ⟨gb358, 0, none⟩ (.int .u64 t353)).setCell ⟨gb358, 1, none⟩ (.slice Ao134 t354.length co134)) = w135 at n0_ n1_ n2_ n3_ n4_ n5_ n6_ n7_ ⊢
              have HO_334001 := n0_
              have HO_340001 := n1_
              have HO356 := n2_
              have BK326 := n3_
              have BK333 := n4_
              have BK339 := n5_
              have BK358 := n6_
              have HB := n7_
              clear n0_ n1_ n2_ n3_ n4_ n5_ n6_ n7_
              replace HO_334001 := Aside0.mk (Kd.V_drew HO_334001.out)
              replace HO_340001 := Aside0.mk (Kd.S_drew HO_340001.out)
              replace HO356 := Aside0.mk (Kd.S_drew HO356.out)
              replace BK326 := Aside0.mk (blk_drew BK326.out)
              replace BK333 := Aside0.mk (blk_drew BK333.out)
              replace BK339 := Aside0.mk (blk_drew BK339.out)
              replace BK358 := Aside0.mk (blk_drew BK358.out)
              replace HB := Aside0.mk (below_drew1 HB.out)
              refine start_ (n := 12) (S := fun w' => True) (ds := []) #[false, false, false, false, false, false, false, false, false, false, false, false] (by kernel_rfl) rfl rfl trivial (fun hHeld => ?_); refine with_tabW rillmeterlaw12_SignedTurns.tab23 rillmeterlaw12_SignedTurns.bits23 (fun HT_ HW_ => ?_)
              generalize w135.drew = w136 at HO_334001 HO_340001 HO356 BK326 BK333 BK339 BK358 HB hHeld ⊢
              refine pure_ (i := 0) (N := some 140) (v := ?_) (a' := ?_) (mkB 12 1) rfl rfl (any_of HT_.out (by kernel_rfl)) (fun _ _ _ h => h) (Or.inl ⟨by rfl, ?_⟩) ?_ ?_
              rotate_left
              ·
               intro w'
               go_simp
               with_reducible rfl
              rotate_left
              ·
               simp only [Act.put, List.setIfInBounds_toArray, List.set_cons_zero, List.set_cons_succ, i64_w, i32_w]
               rfl
              refine pure_ (i := 1) (N := some 141) (v := ?_) (a' := ?_) (mkB 12 3) rfl rfl (any_of HT_.out (by kernel_rfl)) (fun _ _ _ h => h) (Or.inl ⟨by rfl, ?_⟩) ?_ ?_
              rotate_left
              ·
               intro w'
               go_simp
               with_reducible rfl
              rotate_left
              ·
               simp only [Act.put, List.setIfInBounds_toArray, List.set_cons_zero, List.set_cons_succ, i64_w, i32_w]
               rfl
              refine pure_ (i := 2) (N := some 142) (v := ?_) (a' := ?_) (mkB 12 7) rfl rfl (any_of HT_.out (by kernel_rfl)) (fun _ _ _ h => h) (Or.inl ⟨by rfl, ?_⟩) ?_ ?_
              rotate_left
              ·
               intro w'
               go_simp
               with_reducible rfl
              rotate_left
              ·
               simp only [Act.put, List.setIfInBounds_toArray, List.set_cons_zero, List.set_cons_succ, i64_w, i32_w]
               rfl
              refine pure_ (i := 3) (N := some 143) (v := undef) (a' := ?_) (mkB 12 15) rfl rfl (any_of HT_.out (by kernel_rfl)) (fun _ _ _ h => h) (Or.inr ⟨by rfl, rfl⟩) ?_ ?_
              rotate_left
              ·
               simp only [Act.put, List.setIfInBounds_toArray, List.set_cons_zero, List.set_cons_succ, i64_w, i32_w]
               rfl
              refine pure_ (i := 4) (N := some 144) (v := undef) (a' := ?_) (mkB 12 31) rfl rfl (any_of HT_.out (by kernel_rfl)) (fun _ _ _ h => h) (Or.inr ⟨by rfl, rfl⟩) ?_ ?_
              rotate_left
              ·
               simp only [Act.put, List.setIfInBounds_toArray, List.set_cons_zero, List.set_cons_succ, i64_w, i32_w]
               rfl
              refine pure_ (i := 5) (N := some 145) (v := undef) (a' := ?_) (mkB 12 63) rfl rfl (any_of HT_.out (by kernel_rfl)) (fun _ _ _ h => h) (Or.inr ⟨by rfl, rfl⟩) ?_ ?_
              rotate_left
              ·
               simp only [Act.put, List.setIfInBounds_toArray, List.set_cons_zero, List.set_cons_succ, i64_w, i32_w]
               rfl
              refine pure_ (i := 6) (N := some 146) (v := undef) (a' := ?_) (mkB 12 127) rfl rfl (any_of HT_.out (by kernel_rfl)) (fun _ _ _ h => h) (Or.inr ⟨by rfl, rfl⟩) ?_ ?_
              rotate_left
              ·
               simp only [Act.put, List.setIfInBounds_toArray, List.set_cons_zero, List.set_cons_succ, i64_w, i32_w]
               rfl
              refine pure_ (i := 7) (N := some 147) (v := ?_) (a' := ?_) (mkB 12 255) rfl rfl (any_of HT_.out (by kernel_rfl)) (fun _ _ _ h => h) (Or.inl ⟨by rfl, ?_⟩) ?_ ?_
              rotate_left
              ·
               intro w'
               go_simp
               with_reducible rfl
              rotate_left
              ·
               simp only [Act.put, List.setIfInBounds_toArray, List.set_cons_zero, List.set_cons_succ, i64_w, i32_w]
               rfl
              refine pure_ (i := 8) (N := some 148) (v := ?_) (a' := ?_) (mkB 12 511) rfl rfl (any_of HT_.out (by kernel_rfl)) (fun _ _ _ h => h) (Or.inl ⟨by rfl, ?_⟩) ?_ ?_
              rotate_left
              ·
               intro w'
               go_simp
               with_reducible rfl
              rotate_left
              ·
               simp only [Act.put, List.setIfInBounds_toArray, List.set_cons_zero, List.set_cons_succ, i64_w, i32_w]
               rfl
              refine pure_ (i := 9) (N := some 149) (v := undef) (a' := ?_) (mkB 12 1023) rfl rfl (any_of HT_.out (by kernel_rfl)) (fun _ _ _ h => h) (Or.inr ⟨by rfl, rfl⟩) ?_ ?_
              rotate_left
              ·
               simp only [Act.put, List.setIfInBounds_toArray, List.set_cons_zero, List.set_cons_succ, i64_w, i32_w]
               rfl
              refine pure_ (i := 10) (N := some 150) (v := ?_) (a' := ?_) (mkB 12 2047) rfl rfl (any_of HT_.out (by kernel_rfl)) (fun _ _ _ h => h) (Or.inl ⟨by rfl, ?_⟩) ?_ ?_
              rotate_left
              ·
               intro w'
               go_simp
               with_reducible rfl
              rotate_left
              ·
               simp only [Act.put, List.setIfInBounds_toArray, List.set_cons_zero, List.set_cons_succ, i64_w, i32_w]
               rfl
              refine pure_ (i := 11) (N := some 6) (v := ?_) (a' := ?_) (mkB 12 4095) rfl rfl (any_of HT_.out (by kernel_rfl)) (fun _ _ _ h => h) (Or.inl ⟨by rfl, ?_⟩) ?_ ?_
              rotate_left
              ·
               intro w'
               go_simp
               with_reducible rfl
              rotate_left
              ·
               simp only [Act.put, List.setIfInBounds_toArray, List.set_cons_zero, List.set_cons_succ, i64_w, i32_w]
               rfl
              refine done_ (done_of HT_.out (by kernel_rfl)) ?_
              try go_wp2
              go_ret
              exact ⟨by first | rfl | (simp [errW_none, errW_some] <;> rfl) | (simp [*, errW_none, errW_some] <;> rfl), by repeat (first | (with_reducible first | exact HB.out | apply below_alloc | apply pw_below_drewN | apply below_drew1 | refine below_set ?_ GE326.out | refine below_set ?_ GE333.out | refine below_set ?_ GE339.out | refine below_set ?_ GE358.out) | exact HB.out)⟩
            ·
             replace c88 := Bool.eq_false_iff.mpr c88
             subst c88
             have H1 : (if t338 = 5 then (if (t335.length : Int) = 0 then ((rillmeterlaw12_awake.f kj68).bind fun t365 => (some t365)) else (some false)) else (some false)) = some r := by rw [if_neg (show ¬ (false = true) by decide)] at H; exact H
             clear H
             have H := H1
             clear H1
             by_cases c137 : t338 = 5
             ·
              rw [if_pos c137] at H
              have c137b0 : (t338 == 5) = true := beq_iff_eq.mpr c137
              have c137b1 : (t338 != 5) = false := bne_eq_false_iff_eq.mpr c137
              clear c137
              by_cases c138 : (t335.length : Int) = 0
              ·
               rw [if_pos c138] at H
               have c138b0 : ((t335.length : Int) == 0) = true := beq_iff_eq.mpr c138
               have c138b1 : ((t335.length : Int) != 0) = false := bne_eq_false_iff_eq.mpr c138
               clear c138
               replace H := Option.bind_eq_some_iff.mp H
               obtain ⟨t365, A1390, H⟩ := H
               replace H : (some t365) = some r := H
               have A139 := Aside0.mk A1390
               clear A1390
               obtain rfl := Option.some.inj H
               go_wp2_with (first | ((with_reducible refine gate_callee (f := 21) rfl ?_); refine goesM_ (some 107) Try.func21 #[.int .i64 a2] ?_; (with_reducible refine (rillmeterref12_Fits.calls a2 true _ A85.out).mono ?_); rintro e w' ⟨rfl, ⟨nd, rfl⟩⟩; refine ⟨_, rfl, ?_⟩; (try (rw [drewN_self wc]; generalize hq_ : World.drewN wc _ = wc; replace HO_334001 : Aside0 (Kd.V (Kd.slice 3 (Kd.int .i64)) 33 wc w.heap.size (fun k_ => some k_ ≠ (.slice Ao30 t335.length co30 : Value).ownBlock ∧ k_ ≠ gb326 ∧ k_ ≠ gb333 ∧ k_ ≠ gb339) (.slice Ao23 t330.length co23) t330) := ⟨by rw [← hq_]; exact (pV HO_334001)⟩; replace HO_340001 : Aside0 (Kd.S (Kd.slice 3 (Kd.int .i64)) 33 wc w.heap.size (fun _ => True) (.slice Ao30 t335.length co30) t335) := ⟨by rw [← hq_]; exact (pS HO_340001)⟩; replace BK326 : Aside0 (wc.heap[gb326]? = some (.cells #[.int .u64 a0_0, .slice A0_1 l0_1.length c0_1] 25 (0, 0))) := ⟨by rw [← hq_]; exact (pB BK326)⟩; replace BK333 : Aside0 (wc.heap[gb333]? = some (.cells #[.int .u64 t329, .slice Ao23 t330.length co23] 30 (0, 0))) := ⟨by rw [← hq_]; exact (pB BK333)⟩; replace BK339 : Aside0 (wc.heap[gb339]? = some (.cells #[.int .u64 t334, .slice Ao30 t335.length co30] 25 (0, 0))) := ⟨by rw [← hq_]; exact (pB BK339)⟩; replace HB : Aside0 (Below w.heap.size w wc) := ⟨by rw [← hq_]; exact (pH HB)⟩; clear hq_)); have hnb140 := NB333_326.out; have hnc140 := NB326_333.out; have hnb141 := NB333_339.out; have hnc141 := NB339_333.out; have hcz142_0 : wc.cell? ⟨gb333, 0, none⟩ = some (.int .u64 t329) := (blk_cell BK333.out 0).trans rfl; have hcz142_1 : wc.cell? ⟨gb333, 1, none⟩ = some (.slice Ao23 t330.length co23) := (blk_cell BK333.out 1).trans rfl; have hfz142_0 := blk_frozen BK333.out 0; have hfz142_1 := blk_frozen BK333.out 1) | ((with_reducible refine gate_callee (f := 22) rfl ?_); refine goesM_ (some 124) Try.func22 #[.agg #[.int .u64 t329, .slice Ao23 t330.length co23], .string a1, .int .i64 a2] ?_; (with_reducible refine (rillmeterref12_Add.calls kj68 t329 _ _ t330 a1 a2 t353 t354 false _ ?side1 ?side2 A87.out).mono ?_); (case side1 => repeat (first | exact (Kd.V_reads' HO_334001.out).2.2 | (with_reducible refine Kd.C_alloc ?_ _) | (with_reducible refine Kd.C_drewN ?_ _) | (with_reducible refine Kd.C_drew ?_))); (case side2 => exact (Kd.V_reads' HO_334001.out).2.1); rintro e w143 ⟨v355, rfl, ho0, hb⟩; refine ⟨_, rfl, ?_⟩; have HO356 := Aside0.mk (Kd.S_lower (Kd.S_new' ho0 (Kd.S_lt (pS HO_340001))) (below_size (pH HB))); replace HO_334001 := Aside0.mk (Kd.V_elder' (pV HO_334001) (Kd.S_base ho0) hb); replace HO_340001 := Aside0.mk (Kd.S_elder' (pS HO_340001) (Kd.S_base ho0) hb); replace BK326 := bB BK326 hb; replace BK333 := bB BK333 hb; replace BK339 := bB BK339 hb; replace HB := stB HB hb; (try clear hb); (try clear hb2); (try clear hk); (try clear hi); (try clear ho0)) | ((with_reducible refine gate_dst (N := 13) rfl ?_); (try (refine gate_guard (by rfl) ?_; dsimp only)); refine box_event ?hg (N := 13) ?hd (cs := #[.int .u64 0, .slice none 0 0]) (t := 30) ?hr ?_; (case hd => rfl); (case hg => rfl); (case hr => first | (go_simp; done) | (go_simp; rfl)); intro gb358 hg w144 hbox hb; have BK358 := Aside0.mk (hbox); have GW358 := geN HB hg; have GE358 := geN HB hg; have NB326_358 := neL BK326 hg; have NB358_326 := neG BK326 hg; have NB333_358 := neL BK333 hg; have NB358_333 := neG BK333 hg; have NB339_358 := neL BK339 hg; have NB358_339 := neG BK339 hg; replace HO_334001 := Aside0.mk (Kd.V_below (Kd.V_elderB (pV HO_334001) gb358 (Nat.le_of_eq hg.symm)) hb); replace HO_340001 := Aside0.mk (Kd.S_below (pS HO_340001) hb); replace HO356 := Aside0.mk (Kd.S_below (pS HO356) hb); replace BK326 := bB BK326 hb; replace BK333 := bB BK333 hb; replace BK339 := bB BK339 hb; replace HB := stB HB hb; clear hb hbox hg; have hnb145 := NB358_326.out; have hnc145 := NB326_358.out; have hnb146 := NB358_333.out; have hnc146 := NB333_358.out; have hnb147 := NB358_339.out; have hnc147 := NB339_358.out; have hcz148_0 : w144.cell? ⟨gb358, 0, none⟩ = some (.int .u64 0) := (blk_cell BK358.out 0).trans rfl; have hcz148_1 : w144.cell? ⟨gb358, 1, none⟩ = some (.slice none 0 0) := (blk_cell BK358.out 1).trans rfl; have hfz148_0 := blk_frozen BK358.out 0; have hfz148_1 := blk_frozen BK358.out 1; obtain ⟨Ao149, co149, eo149⟩ := Kd.S_slice HO356.out; subst eo149; have hnb150 := NB339_326.out; have hnc150 := NB326_339.out; have hcz151_0 : w144.cell? ⟨gb339, 0, none⟩ = some (.int .u64 t334) := (blk_cell BK339.out 0).trans rfl; have hcz151_1 : w144.cell? ⟨gb339, 1, none⟩ = some (.slice Ao30 t335.length co30) := (blk_cell BK339.out 1).trans rfl; have hfz151_0 := blk_frozen BK339.out 0; have hfz151_1 := blk_frozen BK339.out 1) | (go_at_call 12; (with_reducible refine (rillmeterlaw12_awake.calls kj68  t365 _ A139.out).mono ?_); rintro e w152 ⟨rfl, hb⟩; replace HO_334001 := Aside0.mk (Kd.V_below (by (with_reducible repeat (first | apply Kd.V_alloc | apply Kd.V_drewN | apply Kd.V_drew)); exact (Kd.V_mono (Kd.V_far (p := ⟨gb358, 1, none⟩) (Kd.V_far (p := ⟨gb358, 0, none⟩) (Kd.V_mono HO_334001.out (fun k_ hk => (⟨hk, hk.2⟩ : _ ∧ k_ ≠ gb358))) (fun _ hk => hk.2) (.int .u64 t353)) (fun _ hk => hk.2) (.slice Ao149 t354.length co149)) (fun _ h_ => h_.1))) hb); replace HO_340001 := Aside0.mk (Kd.S_below (by (with_reducible repeat (first | apply Kd.S_alloc | apply Kd.S_drewN | apply Kd.S_drew)); exact (Kd.S_mono (Kd.S_far (p := ⟨gb358, 1, none⟩) (Kd.S_far (p := ⟨gb358, 0, none⟩) (Kd.S_types HO_340001.out BK358.out (by decide)) (fun _ hk => hk.2) (.int .u64 t353)) (fun _ hk => hk.2) (.slice Ao149 t354.length co149)) (fun _ h_ => h_.1))) hb); replace HO356 := Aside0.mk (Kd.S_below (by (with_reducible repeat (first | apply Kd.S_alloc | apply Kd.S_drewN | apply Kd.S_drew)); exact (Kd.S_mono (Kd.S_far (p := ⟨gb358, 1, none⟩) (Kd.S_far (p := ⟨gb358, 0, none⟩) (Kd.S_types HO356.out BK358.out (by decide)) (fun _ hk => hk.2) (.int .u64 t353)) (fun _ hk => hk.2) (.slice Ao149 t354.length co149)) (fun _ h_ => h_.1))) hb); replace BK326 := Aside0.mk (blk_below (g := gb326) (o := .cells #[.int .u64 a0_0, .slice A0_1 l0_1.length c0_1] 25 (0, 0)) (by (with_reducible repeat (first | refine blk_drewN ?_ _ | refine blk_drew ?_ | refine blk_alloc ?_ _)); refine blk_far ?_ NB326_358.out _; (with_reducible repeat (first | refine blk_drewN ?_ _ | refine blk_drew ?_ | refine blk_alloc ?_ _)); refine blk_far ?_ NB326_358.out _; (with_reducible repeat (first | refine blk_drewN ?_ _ | refine blk_drew ?_ | refine blk_alloc ?_ _)); exact BK326.out) hb); replace BK333 := Aside0.mk (blk_below (g := gb333) (o := .cells #[.int .u64 t329, .slice Ao23 t330.length co23] 30 (0, 0)) (by (with_reducible repeat (first | refine blk_drewN ?_ _ | refine blk_drew ?_ | refine blk_alloc ?_ _)); refine blk_far ?_ NB333_358.out _; (with_reducible repeat (first | refine blk_drewN ?_ _ | refine blk_drew ?_ | refine blk_alloc ?_ _)); refine blk_far ?_ NB333_358.out _; (with_reducible repeat (first | refine blk_drewN ?_ _ | refine blk_drew ?_ | refine blk_alloc ?_ _)); exact BK333.out) hb); replace BK339 := Aside0.mk (blk_below (g := gb339) (o := .cells #[.int .u64 t334, .slice Ao30 t335.length co30] 25 (0, 0)) (by (with_reducible repeat (first | refine blk_drewN ?_ _ | refine blk_drew ?_ | refine blk_alloc ?_ _)); refine blk_far ?_ NB339_358.out _; (with_reducible repeat (first | refine blk_drewN ?_ _ | refine blk_drew ?_ | refine blk_alloc ?_ _)); refine blk_far ?_ NB339_358.out _; (with_reducible repeat (first | refine blk_drewN ?_ _ | refine blk_drew ?_ | refine blk_alloc ?_ _)); exact BK339.out) hb); replace BK358 := Aside0.mk (blk_below (g := gb358) (o := .cells #[.int .u64 t353, .slice Ao149 t354.length co149] 30 (0, 0)) (by (with_reducible repeat (first | refine blk_drewN ?_ _ | refine blk_drew ?_ | refine blk_alloc ?_ _)); refine blk_put (cs := #[.int .u64 t353, .slice none 0 0]) ?_ 1 _ rfl; (with_reducible repeat (first | refine blk_drewN ?_ _ | refine blk_drew ?_ | refine blk_alloc ?_ _)); refine blk_put (cs := #[.int .u64 0, .slice none 0 0]) ?_ 0 _ rfl; (with_reducible repeat (first | refine blk_drewN ?_ _ | refine blk_drew ?_ | refine blk_alloc ?_ _)); exact BK358.out) hb); replace HB := stB HB hb; (try clear hb); (try clear hb2); (try clear hk); (try clear hi)))
               go_ret
               exact ⟨by first | rfl | (simp [errW_none, errW_some] <;> rfl) | (simp [*, errW_none, errW_some] <;> rfl), by repeat (first | (with_reducible first | exact HB.out | apply below_alloc | apply pw_below_drewN | apply below_drew1 | refine below_set ?_ GE326.out | refine below_set ?_ GE333.out | refine below_set ?_ GE339.out | refine below_set ?_ GE358.out) | exact HB.out)⟩
              ·
               rw [if_neg c138] at H
               have c138b0 : ((t335.length : Int) == 0) = false := beq_eq_false_iff_ne.mpr c138
               have c138b1 : ((t335.length : Int) != 0) = true := bne_iff_ne.mpr c138
               have c138b2 : ¬ (t335 = []) := fun h_ => c138 (by rw [h_]; rfl)
               obtain rfl := Option.some.inj H
               go_wp2_with (first | ((with_reducible refine gate_callee (f := 21) rfl ?_); refine goesM_ (some 107) Try.func21 #[.int .i64 a2] ?_; (with_reducible refine (rillmeterref12_Fits.calls a2 true _ A85.out).mono ?_); rintro e w' ⟨rfl, ⟨nd, rfl⟩⟩; refine ⟨_, rfl, ?_⟩; (try (rw [drewN_self wc]; generalize hq_ : World.drewN wc _ = wc; replace HO_334001 : Aside0 (Kd.V (Kd.slice 3 (Kd.int .i64)) 33 wc w.heap.size (fun k_ => some k_ ≠ (.slice Ao30 t335.length co30 : Value).ownBlock ∧ k_ ≠ gb326 ∧ k_ ≠ gb333 ∧ k_ ≠ gb339) (.slice Ao23 t330.length co23) t330) := ⟨by rw [← hq_]; exact (pV HO_334001)⟩; replace HO_340001 : Aside0 (Kd.S (Kd.slice 3 (Kd.int .i64)) 33 wc w.heap.size (fun _ => True) (.slice Ao30 t335.length co30) t335) := ⟨by rw [← hq_]; exact (pS HO_340001)⟩; replace BK326 : Aside0 (wc.heap[gb326]? = some (.cells #[.int .u64 a0_0, .slice A0_1 l0_1.length c0_1] 25 (0, 0))) := ⟨by rw [← hq_]; exact (pB BK326)⟩; replace BK333 : Aside0 (wc.heap[gb333]? = some (.cells #[.int .u64 t329, .slice Ao23 t330.length co23] 30 (0, 0))) := ⟨by rw [← hq_]; exact (pB BK333)⟩; replace BK339 : Aside0 (wc.heap[gb339]? = some (.cells #[.int .u64 t334, .slice Ao30 t335.length co30] 25 (0, 0))) := ⟨by rw [← hq_]; exact (pB BK339)⟩; replace HB : Aside0 (Below w.heap.size w wc) := ⟨by rw [← hq_]; exact (pH HB)⟩; clear hq_)); have hnb153 := NB333_326.out; have hnc153 := NB326_333.out; have hnb154 := NB333_339.out; have hnc154 := NB339_333.out; have hcz155_0 : wc.cell? ⟨gb333, 0, none⟩ = some (.int .u64 t329) := (blk_cell BK333.out 0).trans rfl; have hcz155_1 : wc.cell? ⟨gb333, 1, none⟩ = some (.slice Ao23 t330.length co23) := (blk_cell BK333.out 1).trans rfl; have hfz155_0 := blk_frozen BK333.out 0; have hfz155_1 := blk_frozen BK333.out 1) | ((with_reducible refine gate_callee (f := 22) rfl ?_); refine goesM_ (some 124) Try.func22 #[.agg #[.int .u64 t329, .slice Ao23 t330.length co23], .string a1, .int .i64 a2] ?_; (with_reducible refine (rillmeterref12_Add.calls kj68 t329 _ _ t330 a1 a2 t353 t354 false _ ?side1 ?side2 A87.out).mono ?_); (case side1 => repeat (first | exact (Kd.V_reads' HO_334001.out).2.2 | (with_reducible refine Kd.C_alloc ?_ _) | (with_reducible refine Kd.C_drewN ?_ _) | (with_reducible refine Kd.C_drew ?_))); (case side2 => exact (Kd.V_reads' HO_334001.out).2.1); rintro e w156 ⟨v355, rfl, ho0, hb⟩; refine ⟨_, rfl, ?_⟩; have HO356 := Aside0.mk (Kd.S_lower (Kd.S_new' ho0 (Kd.S_lt (pS HO_340001))) (below_size (pH HB))); replace HO_334001 := Aside0.mk (Kd.V_elder' (pV HO_334001) (Kd.S_base ho0) hb); replace HO_340001 := Aside0.mk (Kd.S_elder' (pS HO_340001) (Kd.S_base ho0) hb); replace BK326 := bB BK326 hb; replace BK333 := bB BK333 hb; replace BK339 := bB BK339 hb; replace HB := stB HB hb; (try clear hb); (try clear hb2); (try clear hk); (try clear hi); (try clear ho0)) | ((with_reducible refine gate_dst (N := 13) rfl ?_); (try (refine gate_guard (by rfl) ?_; dsimp only)); refine box_event ?hg (N := 13) ?hd (cs := #[.int .u64 0, .slice none 0 0]) (t := 30) ?hr ?_; (case hd => rfl); (case hg => rfl); (case hr => first | (go_simp; done) | (go_simp; rfl)); intro gb358 hg w157 hbox hb; have BK358 := Aside0.mk (hbox); have GW358 := geN HB hg; have GE358 := geN HB hg; have NB326_358 := neL BK326 hg; have NB358_326 := neG BK326 hg; have NB333_358 := neL BK333 hg; have NB358_333 := neG BK333 hg; have NB339_358 := neL BK339 hg; have NB358_339 := neG BK339 hg; replace HO_334001 := Aside0.mk (Kd.V_below (Kd.V_elderB (pV HO_334001) gb358 (Nat.le_of_eq hg.symm)) hb); replace HO_340001 := Aside0.mk (Kd.S_below (pS HO_340001) hb); replace HO356 := Aside0.mk (Kd.S_below (pS HO356) hb); replace BK326 := bB BK326 hb; replace BK333 := bB BK333 hb; replace BK339 := bB BK339 hb; replace HB := stB HB hb; clear hb hbox hg; have hnb158 := NB358_326.out; have hnc158 := NB326_358.out; have hnb159 := NB358_333.out; have hnc159 := NB333_358.out; have hnb160 := NB358_339.out; have hnc160 := NB339_358.out; have hcz161_0 : w157.cell? ⟨gb358, 0, none⟩ = some (.int .u64 0) := (blk_cell BK358.out 0).trans rfl; have hcz161_1 : w157.cell? ⟨gb358, 1, none⟩ = some (.slice none 0 0) := (blk_cell BK358.out 1).trans rfl; have hfz161_0 := blk_frozen BK358.out 0; have hfz161_1 := blk_frozen BK358.out 1; obtain ⟨Ao162, co162, eo162⟩ := Kd.S_slice HO356.out; subst eo162; have hnb163 := NB339_326.out; have hnc163 := NB326_339.out; have hcz164_0 : w157.cell? ⟨gb339, 0, none⟩ = some (.int .u64 t334) := (blk_cell BK339.out 0).trans rfl; have hcz164_1 : w157.cell? ⟨gb339, 1, none⟩ = some (.slice Ao30 t335.length co30) := (blk_cell BK339.out 1).trans rfl; have hfz164_0 := blk_frozen BK339.out 0; have hfz164_1 := blk_frozen BK339.out 1))
               go_ret
               exact ⟨by first | rfl | (simp [errW_none, errW_some] <;> rfl) | (simp [*, errW_none, errW_some] <;> rfl), by repeat (first | (with_reducible first | exact HB.out | apply below_alloc | apply pw_below_drewN | apply below_drew1 | refine below_set ?_ GE326.out | refine below_set ?_ GE333.out | refine below_set ?_ GE339.out | refine below_set ?_ GE358.out) | exact HB.out)⟩
             ·
              rw [if_neg c137] at H
              have c137b0 : (t338 == 5) = false := beq_eq_false_iff_ne.mpr c137
              have c137b1 : (t338 != 5) = true := bne_iff_ne.mpr c137
              obtain rfl := Option.some.inj H
              go_wp2_with (first | ((with_reducible refine gate_callee (f := 21) rfl ?_); refine goesM_ (some 107) Try.func21 #[.int .i64 a2] ?_; (with_reducible refine (rillmeterref12_Fits.calls a2 true _ A85.out).mono ?_); rintro e w' ⟨rfl, ⟨nd, rfl⟩⟩; refine ⟨_, rfl, ?_⟩; (try (rw [drewN_self wc]; generalize hq_ : World.drewN wc _ = wc; replace HO_334001 : Aside0 (Kd.V (Kd.slice 3 (Kd.int .i64)) 33 wc w.heap.size (fun k_ => some k_ ≠ (.slice Ao30 t335.length co30 : Value).ownBlock ∧ k_ ≠ gb326 ∧ k_ ≠ gb333 ∧ k_ ≠ gb339) (.slice Ao23 t330.length co23) t330) := ⟨by rw [← hq_]; exact (pV HO_334001)⟩; replace HO_340001 : Aside0 (Kd.S (Kd.slice 3 (Kd.int .i64)) 33 wc w.heap.size (fun _ => True) (.slice Ao30 t335.length co30) t335) := ⟨by rw [← hq_]; exact (pS HO_340001)⟩; replace BK326 : Aside0 (wc.heap[gb326]? = some (.cells #[.int .u64 a0_0, .slice A0_1 l0_1.length c0_1] 25 (0, 0))) := ⟨by rw [← hq_]; exact (pB BK326)⟩; replace BK333 : Aside0 (wc.heap[gb333]? = some (.cells #[.int .u64 t329, .slice Ao23 t330.length co23] 30 (0, 0))) := ⟨by rw [← hq_]; exact (pB BK333)⟩; replace BK339 : Aside0 (wc.heap[gb339]? = some (.cells #[.int .u64 t334, .slice Ao30 t335.length co30] 25 (0, 0))) := ⟨by rw [← hq_]; exact (pB BK339)⟩; replace HB : Aside0 (Below w.heap.size w wc) := ⟨by rw [← hq_]; exact (pH HB)⟩; clear hq_)); have hnb165 := NB333_326.out; have hnc165 := NB326_333.out; have hnb166 := NB333_339.out; have hnc166 := NB339_333.out; have hcz167_0 : wc.cell? ⟨gb333, 0, none⟩ = some (.int .u64 t329) := (blk_cell BK333.out 0).trans rfl; have hcz167_1 : wc.cell? ⟨gb333, 1, none⟩ = some (.slice Ao23 t330.length co23) := (blk_cell BK333.out 1).trans rfl; have hfz167_0 := blk_frozen BK333.out 0; have hfz167_1 := blk_frozen BK333.out 1) | ((with_reducible refine gate_callee (f := 22) rfl ?_); refine goesM_ (some 124) Try.func22 #[.agg #[.int .u64 t329, .slice Ao23 t330.length co23], .string a1, .int .i64 a2] ?_; (with_reducible refine (rillmeterref12_Add.calls kj68 t329 _ _ t330 a1 a2 t353 t354 false _ ?side1 ?side2 A87.out).mono ?_); (case side1 => repeat (first | exact (Kd.V_reads' HO_334001.out).2.2 | (with_reducible refine Kd.C_alloc ?_ _) | (with_reducible refine Kd.C_drewN ?_ _) | (with_reducible refine Kd.C_drew ?_))); (case side2 => exact (Kd.V_reads' HO_334001.out).2.1); rintro e w168 ⟨v355, rfl, ho0, hb⟩; refine ⟨_, rfl, ?_⟩; have HO356 := Aside0.mk (Kd.S_lower (Kd.S_new' ho0 (Kd.S_lt (pS HO_340001))) (below_size (pH HB))); replace HO_334001 := Aside0.mk (Kd.V_elder' (pV HO_334001) (Kd.S_base ho0) hb); replace HO_340001 := Aside0.mk (Kd.S_elder' (pS HO_340001) (Kd.S_base ho0) hb); replace BK326 := bB BK326 hb; replace BK333 := bB BK333 hb; replace BK339 := bB BK339 hb; replace HB := stB HB hb; (try clear hb); (try clear hb2); (try clear hk); (try clear hi); (try clear ho0)) | ((with_reducible refine gate_dst (N := 13) rfl ?_); (try (refine gate_guard (by rfl) ?_; dsimp only)); refine box_event ?hg (N := 13) ?hd (cs := #[.int .u64 0, .slice none 0 0]) (t := 30) ?hr ?_; (case hd => rfl); (case hg => rfl); (case hr => first | (go_simp; done) | (go_simp; rfl)); intro gb358 hg w169 hbox hb; have BK358 := Aside0.mk (hbox); have GW358 := geN HB hg; have GE358 := geN HB hg; have NB326_358 := neL BK326 hg; have NB358_326 := neG BK326 hg; have NB333_358 := neL BK333 hg; have NB358_333 := neG BK333 hg; have NB339_358 := neL BK339 hg; have NB358_339 := neG BK339 hg; replace HO_334001 := Aside0.mk (Kd.V_below (Kd.V_elderB (pV HO_334001) gb358 (Nat.le_of_eq hg.symm)) hb); replace HO_340001 := Aside0.mk (Kd.S_below (pS HO_340001) hb); replace HO356 := Aside0.mk (Kd.S_below (pS HO356) hb); replace BK326 := bB BK326 hb; replace BK333 := bB BK333 hb; replace BK339 := bB BK339 hb; replace HB := stB HB hb; clear hb hbox hg; have hnb170 := NB358_326.out; have hnc170 := NB326_358.out; have hnb171 := NB358_333.out; have hnc171 := NB333_358.out; have hnb172 := NB358_339.out; have hnc172 := NB339_358.out; have hcz173_0 : w169.cell? ⟨gb358, 0, none⟩ = some (.int .u64 0) := (blk_cell BK358.out 0).trans rfl; have hcz173_1 : w169.cell? ⟨gb358, 1, none⟩ = some (.slice none 0 0) := (blk_cell BK358.out 1).trans rfl; have hfz173_0 := blk_frozen BK358.out 0; have hfz173_1 := blk_frozen BK358.out 1; obtain ⟨Ao174, co174, eo174⟩ := Kd.S_slice HO356.out; subst eo174))
              go_ret
              exact ⟨by first | rfl | (simp [errW_none, errW_some] <;> rfl) | (simp [*, errW_none, errW_some] <;> rfl), by repeat (first | (with_reducible first | exact HB.out | apply below_alloc | apply pw_below_drewN | apply below_drew1 | refine below_set ?_ GE326.out | refine below_set ?_ GE333.out | refine below_set ?_ GE339.out | refine below_set ?_ GE358.out) | exact HB.out)⟩
           ·
            replace c86 := Bool.eq_false_iff.mpr c86
            subst c86
            have H1 : (if t338 = 1 then (if (t335.length : Int) = 0 then ((rillmeterlaw12_awake.f kj68).bind fun t352 => (some t352)) else (some false)) else (some false)) = some r := by rw [if_neg (show ¬ (false = true) by decide)] at H; exact H
            clear H
            have H := H1
            clear H1
            by_cases c175 : t338 = 1
            ·
             rw [if_pos c175] at H
             have c175b0 : (t338 == 1) = true := beq_iff_eq.mpr c175
             have c175b1 : (t338 != 1) = false := bne_eq_false_iff_eq.mpr c175
             clear c175
             by_cases c176 : (t335.length : Int) = 0
             ·
              rw [if_pos c176] at H
              have c176b0 : ((t335.length : Int) == 0) = true := beq_iff_eq.mpr c176
              have c176b1 : ((t335.length : Int) != 0) = false := bne_eq_false_iff_eq.mpr c176
              clear c176
              replace H := Option.bind_eq_some_iff.mp H
              obtain ⟨t352, A1770, H⟩ := H
              replace H : (some t352) = some r := H
              have A177 := Aside0.mk A1770
              clear A1770
              obtain rfl := Option.some.inj H
              go_wp2_with (first | ((with_reducible refine gate_callee (f := 21) rfl ?_); refine goesM_ (some 107) Try.func21 #[.int .i64 a2] ?_; (with_reducible refine (rillmeterref12_Fits.calls a2 false _ A85.out).mono ?_); rintro e w' ⟨rfl, ⟨nd, rfl⟩⟩; refine ⟨_, rfl, ?_⟩; have hnb178 := NB339_326.out; have hnc178 := NB326_339.out; have hnb179 := NB339_333.out; have hnc179 := NB333_339.out; have hcz180_0 : wc.cell? ⟨gb339, 0, none⟩ = some (.int .u64 t334) := (blk_cell BK339.out 0).trans rfl; have hcz180_1 : wc.cell? ⟨gb339, 1, none⟩ = some (.slice Ao30 t335.length co30) := (blk_cell BK339.out 1).trans rfl; have hfz180_0 := blk_frozen BK339.out 0; have hfz180_1 := blk_frozen BK339.out 1) | (go_at_call 12; (with_reducible refine (rillmeterlaw12_awake.calls kj68  t352 _ A177.out).mono ?_); rintro e w181 ⟨rfl, hb⟩; replace HO_334001 := Aside0.mk (Kd.V_below (pV HO_334001) hb); replace HO_340001 := Aside0.mk (Kd.S_below (pS HO_340001) hb); replace BK326 := bB BK326 hb; replace BK333 := bB BK333 hb; replace BK339 := bB BK339 hb; replace HB := stB HB hb; (try clear hb); (try clear hb2); (try clear hk); (try clear hi)))
              go_ret
              exact ⟨by first | rfl | (simp [errW_none, errW_some] <;> rfl) | (simp [*, errW_none, errW_some] <;> rfl), by repeat (first | (with_reducible first | exact HB.out | apply below_alloc | apply pw_below_drewN | apply below_drew1 | refine below_set ?_ GE326.out | refine below_set ?_ GE333.out | refine below_set ?_ GE339.out) | exact HB.out)⟩
             ·
              rw [if_neg c176] at H
              have c176b0 : ((t335.length : Int) == 0) = false := beq_eq_false_iff_ne.mpr c176
              have c176b1 : ((t335.length : Int) != 0) = true := bne_iff_ne.mpr c176
              have c176b2 : ¬ (t335 = []) := fun h_ => c176 (by rw [h_]; rfl)
              obtain rfl := Option.some.inj H
              go_wp2_with (first | ((with_reducible refine gate_callee (f := 21) rfl ?_); refine goesM_ (some 107) Try.func21 #[.int .i64 a2] ?_; (with_reducible refine (rillmeterref12_Fits.calls a2 false _ A85.out).mono ?_); rintro e w' ⟨rfl, ⟨nd, rfl⟩⟩; refine ⟨_, rfl, ?_⟩; have hnb182 := NB339_326.out; have hnc182 := NB326_339.out; have hnb183 := NB339_333.out; have hnc183 := NB333_339.out; have hcz184_0 : wc.cell? ⟨gb339, 0, none⟩ = some (.int .u64 t334) := (blk_cell BK339.out 0).trans rfl; have hcz184_1 : wc.cell? ⟨gb339, 1, none⟩ = some (.slice Ao30 t335.length co30) := (blk_cell BK339.out 1).trans rfl; have hfz184_0 := blk_frozen BK339.out 0; have hfz184_1 := blk_frozen BK339.out 1))
              go_ret
              exact ⟨by first | rfl | (simp [errW_none, errW_some] <;> rfl) | (simp [*, errW_none, errW_some] <;> rfl), by repeat (first | (with_reducible first | exact HB.out | apply below_alloc | apply pw_below_drewN | apply below_drew1 | refine below_set ?_ GE326.out | refine below_set ?_ GE333.out | refine below_set ?_ GE339.out) | exact HB.out)⟩
            ·
             rw [if_neg c175] at H
             have c175b0 : (t338 == 1) = false := beq_eq_false_iff_ne.mpr c175
             have c175b1 : (t338 != 1) = true := bne_iff_ne.mpr c175
             obtain rfl := Option.some.inj H
             go_wp2_with (first | ((with_reducible refine gate_callee (f := 21) rfl ?_); refine goesM_ (some 107) Try.func21 #[.int .i64 a2] ?_; (with_reducible refine (rillmeterref12_Fits.calls a2 false _ A85.out).mono ?_); rintro e w' ⟨rfl, ⟨nd, rfl⟩⟩; refine ⟨_, rfl, ?_⟩))
             go_ret
             exact ⟨by first | rfl | (simp [errW_none, errW_some] <;> rfl) | (simp [*, errW_none, errW_some] <;> rfl), by repeat (first | (with_reducible first | exact HB.out | apply below_alloc | apply pw_below_drewN | apply below_drew1 | refine below_set ?_ GE326.out | refine below_set ?_ GE333.out | refine below_set ?_ GE339.out) | exact HB.out)⟩
    ·
     replace c17 := Bool.eq_false_iff.mpr c17
     subst c17
     have H1 : ((signed_Right.f a0_0 l0_1).bind fun t342 => (if t342 = true then (some false) else (if t338 = 1 then (if (t335.length : Int) = 0 then (if t340 = 0 then ((signed_Cell.f kj3 a0_0 l0_1 a1 0).bind fun t343 => (if t343 = 0 then ((rillmeterlaw12_awake.f kj3).bind fun t344 => (some t344)) else (some false))) else (some false)) else (some false)) else (some false)))) = some r := by rw [if_neg (show ¬ (false = true) by decide)] at H; exact H
     clear H
     have H := H1
     clear H1
     replace H := Option.bind_eq_some_iff.mp H
     obtain ⟨t342, A1850, H⟩ := H
     replace H : (if t342 = true then (some false) else (if t338 = 1 then (if (t335.length : Int) = 0 then (if t340 = 0 then ((signed_Cell.f kj3 a0_0 l0_1 a1 0).bind fun t343 => (if t343 = 0 then ((rillmeterlaw12_awake.f kj3).bind fun t344 => (some t344)) else (some false))) else (some false)) else (some false)) else (some false))) = some r := H
     have A185 := Aside0.mk A1850
     clear A1850
     by_cases c186 : t342 = true
     ·
      subst c186
      have H1 : (some false) = some r := by rw [if_pos rfl] at H; exact H
      clear H
      have H := H1
      clear H1
      obtain rfl := Option.some.inj H
      have hcz187_0 : wc.cell? ⟨gb326, 0, none⟩ = some (.int .u64 a0_0) := (blk_cell BK326.out 0).trans rfl
      have hcz187_1 : wc.cell? ⟨gb326, 1, none⟩ = some (.slice A0_1 l0_1.length c0_1) := (blk_cell BK326.out 1).trans rfl
      have hfz187_0 := blk_frozen BK326.out 0
      have hfz187_1 := blk_frozen BK326.out 1
      go_wp2_with (first | ((with_reducible refine gate_callee (f := 11) rfl ?_); refine goesM_ (some 26) Try.func11 #[.agg #[.int .u64 a0_0, .slice A0_1 l0_1.length c0_1]] ?_; (with_reducible refine (rillmeterlaw12_ref.calls a0_0 (fun k_ => k_ < w.heap.size) _ _ l0_1 t329 t330 _ ?side1 A13.out).mono ?_); (case side1 => exact Kd.V_mk HC0_1.out (Kd.F_below (Kd.C_F (Kd.heap_slice 3 (Kd.heap_int .i64)) HR0_1.out) (pH HB))); rintro e w188 ⟨v331, rfl, ho0, hb⟩; refine ⟨_, rfl, ?_⟩; have HO332 := Aside0.mk (Kd.V_lower (Kd.V_mono (ok' := fun k_ => k_ ≠ gb326) ho0 (fun k_ hk_ => Or.elim hk_ (fun hs_ => fun e_ => Nat.not_le.2 hs_ (by rw [e_]; exact GW326.out)) (fun hn_ => (Kd.freshB (g := gb326) (o := .cells #[.int .u64 a0_0, .slice A0_1 l0_1.length c0_1] 25 (0, 0)) (pB BK326) k_ hn_)))) (below_size (pH HB))); replace BK326 := bB BK326 hb; replace HB := stB HB hb; (try clear hb); (try clear hb2); (try clear hk); (try clear hi); (try clear ho0)) | ((with_reducible refine gate_dst (N := 7) rfl ?_); (try (refine gate_guard (by rfl) ?_; dsimp only)); refine box_event ?hg (N := 7) ?hd (cs := #[.int .u64 0, .slice none 0 0]) (t := 30) ?hr ?_; (case hd => rfl); (case hg => rfl); (case hr => first | (go_simp; done) | (go_simp; rfl)); intro gb333 hg w189 hbox hb; have BK333 := Aside0.mk (hbox); have GW333 := geN HB hg; have GE333 := geN HB hg; have NB326_333 := neL BK326 hg; have NB333_326 := neG BK326 hg; replace HO332 := Aside0.mk (Kd.V_below (Kd.V_elderB (pV HO332) gb333 (Nat.le_of_eq hg.symm)) hb); replace BK326 := bB BK326 hb; replace HB := stB HB hb; clear hb hbox hg; have hnb190 := NB333_326.out; have hnc190 := NB326_333.out; have hcz191_0 : w189.cell? ⟨gb333, 0, none⟩ = some (.int .u64 0) := (blk_cell BK333.out 0).trans rfl; have hcz191_1 : w189.cell? ⟨gb333, 1, none⟩ = some (.slice none 0 0) := (blk_cell BK333.out 1).trans rfl; have hfz191_0 := blk_frozen BK333.out 0; have hfz191_1 := blk_frozen BK333.out 1; obtain ⟨Ao192, co192, eo192⟩ := Kd.V_slice HO332.out; subst eo192; have hcz193_0 : w189.cell? ⟨gb326, 0, none⟩ = some (.int .u64 a0_0) := (blk_cell BK326.out 0).trans rfl; have hcz193_1 : w189.cell? ⟨gb326, 1, none⟩ = some (.slice A0_1 l0_1.length c0_1) := (blk_cell BK326.out 1).trans rfl; have hfz193_0 := blk_frozen BK326.out 0; have hfz193_1 := blk_frozen BK326.out 1) | ((with_reducible refine gate_callee (f := 15) rfl ?_); refine goesM_ (some 31) Try.func15 #[.agg #[.int .u64 a0_0, .slice A0_1 l0_1.length c0_1], .string a1, .int .i64 a2] ?_; (with_reducible refine (signed_Add.calls a0_0 _ _ l0_1 a1 a2 t334 t335 t338 _ ?side1 ?side2 A14.out).mono ?_); (case side1 => exact Kd.C_below HR0_1.out (pH HB)); (case side2 => exact HC0_1.out); rintro e w194 ⟨v336, rfl, ho0, hb⟩; refine ⟨_, rfl, ?_⟩; have HO337 := Aside0.mk (Kd.S_lower ho0 (below_size (pH HB))); replace HO332 := Aside0.mk (Kd.V_elder' (by (with_reducible repeat (first | apply Kd.V_alloc | apply Kd.V_drewN | apply Kd.V_drew)); exact (Kd.V_mono (Kd.V_far (p := ⟨gb333, 1, none⟩) (Kd.V_far (p := ⟨gb333, 0, none⟩) (Kd.V_mono HO332.out (fun k_ hk => (⟨hk, hk.2⟩ : _ ∧ k_ ≠ gb333))) (fun _ hk => hk.2) (.int .u64 t329)) (fun _ hk => hk.2) (.slice Ao192 t330.length co192)) (fun _ h_ => h_.1))) (Kd.S_base ho0) hb); replace BK326 := Aside0.mk (blk_below (g := gb326) (o := .cells #[.int .u64 a0_0, .slice A0_1 l0_1.length c0_1] 25 (0, 0)) (by (with_reducible repeat (first | refine blk_drewN ?_ _ | refine blk_drew ?_ | refine blk_alloc ?_ _)); refine blk_far ?_ NB326_333.out _; (with_reducible repeat (first | refine blk_drewN ?_ _ | refine blk_drew ?_ | refine blk_alloc ?_ _)); refine blk_far ?_ NB326_333.out _; (with_reducible repeat (first | refine blk_drewN ?_ _ | refine blk_drew ?_ | refine blk_alloc ?_ _)); exact BK326.out) hb); replace BK333 := Aside0.mk (blk_below (g := gb333) (o := .cells #[.int .u64 t329, .slice Ao192 t330.length co192] 30 (0, 0)) (by (with_reducible repeat (first | refine blk_drewN ?_ _ | refine blk_drew ?_ | refine blk_alloc ?_ _)); refine blk_put (cs := #[.int .u64 t329, .slice none 0 0]) ?_ 1 _ rfl; (with_reducible repeat (first | refine blk_drewN ?_ _ | refine blk_drew ?_ | refine blk_alloc ?_ _)); refine blk_put (cs := #[.int .u64 0, .slice none 0 0]) ?_ 0 _ rfl; (with_reducible repeat (first | refine blk_drewN ?_ _ | refine blk_drew ?_ | refine blk_alloc ?_ _)); exact BK333.out) hb); replace HB := stB HB hb; (try clear hb); (try clear hb2); (try clear hk); (try clear hi); (try clear ho0)) | ((with_reducible refine gate_dst (N := 8) rfl ?_); (try (refine gate_guard (by rfl) ?_; dsimp only)); refine box_event ?hg (N := 8) ?hd (cs := #[.int .u64 0, .slice none 0 0]) (t := 25) ?hr ?_; (case hd => rfl); (case hg => rfl); (case hr => first | (go_simp; done) | (go_simp; rfl)); intro gb339 hg w195 hbox hb; have BK339 := Aside0.mk (hbox); have GW339 := geN HB hg; have GE339 := geN HB hg; have NB326_339 := neL BK326 hg; have NB339_326 := neG BK326 hg; have NB333_339 := neL BK333 hg; have NB339_333 := neG BK333 hg; replace HO332 := Aside0.mk (Kd.V_below (Kd.V_elderB (pV HO332) gb339 (Nat.le_of_eq hg.symm)) hb); replace HO337 := Aside0.mk (Kd.S_below (pS HO337) hb); replace BK326 := bB BK326 hb; replace BK333 := bB BK333 hb; replace HB := stB HB hb; clear hb hbox hg; have hnb196 := NB339_326.out; have hnc196 := NB326_339.out; have hnb197 := NB339_333.out; have hnc197 := NB333_339.out; have hcz198_0 : w195.cell? ⟨gb339, 0, none⟩ = some (.int .u64 0) := (blk_cell BK339.out 0).trans rfl; have hcz198_1 : w195.cell? ⟨gb339, 1, none⟩ = some (.slice none 0 0) := (blk_cell BK339.out 1).trans rfl; have hfz198_0 := blk_frozen BK339.out 0; have hfz198_1 := blk_frozen BK339.out 1; obtain ⟨Ao199, co199, eo199⟩ := Kd.S_slice HO337.out; subst eo199; have hcz200_0 : w195.cell? ⟨gb326, 0, none⟩ = some (.int .u64 a0_0) := (blk_cell BK326.out 0).trans rfl; have hcz200_1 : w195.cell? ⟨gb326, 1, none⟩ = some (.slice A0_1 l0_1.length c0_1) := (blk_cell BK326.out 1).trans rfl; have hfz200_0 := blk_frozen BK326.out 0; have hfz200_1 := blk_frozen BK326.out 1) | ((with_reducible refine gate_callee (f := 16) rfl ?_); refine goesM_ (some 36) Try.func16 #[.agg #[.int .u64 a0_0, .slice A0_1 l0_1.length c0_1], .string a1] ?_; (with_reducible refine (signed_Get.calls kj3 a0_0 _ _ l0_1 a1 t340 _ ?side1 ?side2 A15.out).mono ?_); (case side1 => exact Kd.C_below HR0_1.out (pH HB)); (case side2 => exact HC0_1.out); rintro e w201 ⟨rfl, hb⟩; refine ⟨_, rfl, ?_⟩; replace HO332 := Aside0.mk (Kd.V_below (by (with_reducible repeat (first | apply Kd.V_alloc | apply Kd.V_drewN | apply Kd.V_drew)); exact (Kd.V_mono (Kd.V_far (p := ⟨gb339, 1, none⟩) (Kd.V_far (p := ⟨gb339, 0, none⟩) (Kd.V_mono HO332.out (fun k_ hk => (⟨hk, hk.2⟩ : _ ∧ k_ ≠ gb339))) (fun _ hk => hk.2) (.int .u64 t334)) (fun _ hk => hk.2) (.slice Ao199 t335.length co199)) (fun _ h_ => h_.1))) hb); replace HO337 := Aside0.mk (Kd.S_below (by (with_reducible repeat (first | apply Kd.S_alloc | apply Kd.S_drewN | apply Kd.S_drew)); exact (Kd.S_mono (Kd.S_far (p := ⟨gb339, 1, none⟩) (Kd.S_far (p := ⟨gb339, 0, none⟩) (Kd.S_types HO337.out BK339.out (by decide)) (fun _ hk => hk.2) (.int .u64 t334)) (fun _ hk => hk.2) (.slice Ao199 t335.length co199)) (fun _ h_ => h_.1))) hb); replace BK326 := Aside0.mk (blk_below (g := gb326) (o := .cells #[.int .u64 a0_0, .slice A0_1 l0_1.length c0_1] 25 (0, 0)) (by (with_reducible repeat (first | refine blk_drewN ?_ _ | refine blk_drew ?_ | refine blk_alloc ?_ _)); refine blk_far ?_ NB326_339.out _; (with_reducible repeat (first | refine blk_drewN ?_ _ | refine blk_drew ?_ | refine blk_alloc ?_ _)); refine blk_far ?_ NB326_339.out _; (with_reducible repeat (first | refine blk_drewN ?_ _ | refine blk_drew ?_ | refine blk_alloc ?_ _)); exact BK326.out) hb); replace BK333 := Aside0.mk (blk_below (g := gb333) (o := .cells #[.int .u64 t329, .slice Ao192 t330.length co192] 30 (0, 0)) (by (with_reducible repeat (first | refine blk_drewN ?_ _ | refine blk_drew ?_ | refine blk_alloc ?_ _)); refine blk_far ?_ NB333_339.out _; (with_reducible repeat (first | refine blk_drewN ?_ _ | refine blk_drew ?_ | refine blk_alloc ?_ _)); refine blk_far ?_ NB333_339.out _; (with_reducible repeat (first | refine blk_drewN ?_ _ | refine blk_drew ?_ | refine blk_alloc ?_ _)); exact BK333.out) hb); replace BK339 := Aside0.mk (blk_below (g := gb339) (o := .cells #[.int .u64 t334, .slice Ao199 t335.length co199] 25 (0, 0)) (by (with_reducible repeat (first | refine blk_drewN ?_ _ | refine blk_drew ?_ | refine blk_alloc ?_ _)); refine blk_put (cs := #[.int .u64 t334, .slice none 0 0]) ?_ 1 _ rfl; (with_reducible repeat (first | refine blk_drewN ?_ _ | refine blk_drew ?_ | refine blk_alloc ?_ _)); refine blk_put (cs := #[.int .u64 0, .slice none 0 0]) ?_ 0 _ rfl; (with_reducible repeat (first | refine blk_drewN ?_ _ | refine blk_drew ?_ | refine blk_alloc ?_ _)); exact BK339.out) hb); replace HB := stB HB hb; (try clear hb); (try clear hb2); (try clear hk); (try clear hi); have hcz202_0 : w201.cell? ⟨gb333, 0, none⟩ = some (.int .u64 t329) := (blk_cell BK333.out 0).trans rfl; have hcz202_1 : w201.cell? ⟨gb333, 1, none⟩ = some (.slice Ao192 t330.length co192) := (blk_cell BK333.out 1).trans rfl; have hfz202_0 := blk_frozen BK333.out 0; have hfz202_1 := blk_frozen BK333.out 1) | ((with_reducible refine gate_callee (f := 13) rfl ?_); refine goesM_ (some 38) Try.func13 #[.agg #[.int .u64 t329, .slice Ao192 t330.length co192]] ?_; (with_reducible refine (rillmeterref12_Right.calls kj3 t329 _ _ t330 false _ ?side1 ?side2 A16.out).mono ?_); (case side1 => repeat (first | exact (Kd.V_reads' HO332.out).2.2 | (with_reducible refine Kd.C_alloc ?_ _) | (with_reducible refine Kd.C_drewN ?_ _) | (with_reducible refine Kd.C_drew ?_))); (case side2 => exact (Kd.V_reads' HO332.out).2.1); rintro e w203 ⟨rfl, hb⟩; refine ⟨_, rfl, ?_⟩; replace HO332 := Aside0.mk (Kd.V_below (pV HO332) hb); replace HO337 := Aside0.mk (Kd.S_below (pS HO337) hb); replace BK326 := bB BK326 hb; replace BK333 := bB BK333 hb; replace BK339 := bB BK339 hb; replace HB := stB HB hb; (try clear hb); (try clear hb2); (try clear hk); (try clear hi); have hcz204_0 : w203.cell? ⟨gb326, 0, none⟩ = some (.int .u64 a0_0) := (blk_cell BK326.out 0).trans rfl; have hcz204_1 : w203.cell? ⟨gb326, 1, none⟩ = some (.slice A0_1 l0_1.length c0_1) := (blk_cell BK326.out 1).trans rfl; have hfz204_0 := blk_frozen BK326.out 0; have hfz204_1 := blk_frozen BK326.out 1) | ((with_reducible refine gate_callee (f := 17) rfl ?_); refine goesM_ (some 41) Try.func17 #[.agg #[.int .u64 a0_0, .slice A0_1 l0_1.length c0_1]] ?_; (with_reducible refine (signed_Right.calls a0_0 _ _ l0_1 true _ ?side1 ?side2 A185.out).mono ?_); (case side1 => repeat (first | exact (Kd.C_below HR0_1.out HB.out) | (with_reducible refine Kd.C_alloc ?_ _) | (with_reducible refine Kd.C_drewN ?_ _) | (with_reducible refine Kd.C_drew ?_))); (case side2 => exact HC0_1.out); rintro e w205 ⟨rfl, hb⟩; refine ⟨_, rfl, ?_⟩; replace HO332 := Aside0.mk (Kd.V_below (pV HO332) hb); replace HO337 := Aside0.mk (Kd.S_below (pS HO337) hb); replace BK326 := bB BK326 hb; replace BK333 := bB BK333 hb; replace BK339 := bB BK339 hb; replace HB := stB HB hb; (try clear hb); (try clear hb2); (try clear hk); (try clear hi)))
      go_ret
      exact ⟨by first | rfl | (simp [errW_none, errW_some] <;> rfl) | (simp [*, errW_none, errW_some] <;> rfl), by repeat (first | (with_reducible first | exact HB.out | apply below_alloc | apply pw_below_drewN | apply below_drew1 | refine below_set ?_ GE326.out | refine below_set ?_ GE333.out | refine below_set ?_ GE339.out) | exact HB.out)⟩
     ·
      replace c186 := Bool.eq_false_iff.mpr c186
      subst c186
      have H1 : (if t338 = 1 then (if (t335.length : Int) = 0 then (if t340 = 0 then ((signed_Cell.f kj3 a0_0 l0_1 a1 0).bind fun t343 => (if t343 = 0 then ((rillmeterlaw12_awake.f kj3).bind fun t344 => (some t344)) else (some false))) else (some false)) else (some false)) else (some false)) = some r := by rw [if_neg (show ¬ (false = true) by decide)] at H; exact H
      clear H
      have H := H1
      clear H1
      by_cases c206 : t338 = 1
      ·
       rw [if_pos c206] at H
       have c206b0 : (t338 == 1) = true := beq_iff_eq.mpr c206
       have c206b1 : (t338 != 1) = false := bne_eq_false_iff_eq.mpr c206
       clear c206
       by_cases c207 : (t335.length : Int) = 0
       ·
        rw [if_pos c207] at H
        have c207b0 : ((t335.length : Int) == 0) = true := beq_iff_eq.mpr c207
        have c207b1 : ((t335.length : Int) != 0) = false := bne_eq_false_iff_eq.mpr c207
        clear c207
        by_cases c208 : t340 = 0
        ·
         rw [if_pos c208] at H
         have c208b0 : (t340 == 0) = true := beq_iff_eq.mpr c208
         have c208b1 : (t340 != 0) = false := bne_eq_false_iff_eq.mpr c208
         clear c208
         replace H := Option.bind_eq_some_iff.mp H
         obtain ⟨t343, A2090, H⟩ := H
         replace H : (if t343 = 0 then ((rillmeterlaw12_awake.f kj3).bind fun t344 => (some t344)) else (some false)) = some r := H
         have A209 := Aside0.mk A2090
         clear A2090
         by_cases c210 : t343 = 0
         ·
          rw [if_pos c210] at H
          have c210b0 : (t343 == 0) = true := beq_iff_eq.mpr c210
          have c210b1 : (t343 != 0) = false := bne_eq_false_iff_eq.mpr c210
          clear c210
          replace H := Option.bind_eq_some_iff.mp H
          obtain ⟨t344, A2110, H⟩ := H
          replace H : (some t344) = some r := H
          have A211 := Aside0.mk A2110
          clear A2110
          obtain rfl := Option.some.inj H
          have hcz212_0 : wc.cell? ⟨gb326, 0, none⟩ = some (.int .u64 a0_0) := (blk_cell BK326.out 0).trans rfl
          have hcz212_1 : wc.cell? ⟨gb326, 1, none⟩ = some (.slice A0_1 l0_1.length c0_1) := (blk_cell BK326.out 1).trans rfl
          have hfz212_0 := blk_frozen BK326.out 0
          have hfz212_1 := blk_frozen BK326.out 1
          go_wp2_with (first | ((with_reducible refine gate_callee (f := 11) rfl ?_); refine goesM_ (some 26) Try.func11 #[.agg #[.int .u64 a0_0, .slice A0_1 l0_1.length c0_1]] ?_; (with_reducible refine (rillmeterlaw12_ref.calls a0_0 (fun k_ => k_ < w.heap.size) _ _ l0_1 t329 t330 _ ?side1 A13.out).mono ?_); (case side1 => exact Kd.V_mk HC0_1.out (Kd.F_below (Kd.C_F (Kd.heap_slice 3 (Kd.heap_int .i64)) HR0_1.out) (pH HB))); rintro e w213 ⟨v331, rfl, ho0, hb⟩; refine ⟨_, rfl, ?_⟩; have HO332 := Aside0.mk (Kd.V_lower (Kd.V_mono (ok' := fun k_ => k_ ≠ gb326) ho0 (fun k_ hk_ => Or.elim hk_ (fun hs_ => fun e_ => Nat.not_le.2 hs_ (by rw [e_]; exact GW326.out)) (fun hn_ => (Kd.freshB (g := gb326) (o := .cells #[.int .u64 a0_0, .slice A0_1 l0_1.length c0_1] 25 (0, 0)) (pB BK326) k_ hn_)))) (below_size (pH HB))); replace BK326 := bB BK326 hb; replace HB := stB HB hb; (try clear hb); (try clear hb2); (try clear hk); (try clear hi); (try clear ho0)) | ((with_reducible refine gate_dst (N := 7) rfl ?_); (try (refine gate_guard (by rfl) ?_; dsimp only)); refine box_event ?hg (N := 7) ?hd (cs := #[.int .u64 0, .slice none 0 0]) (t := 30) ?hr ?_; (case hd => rfl); (case hg => rfl); (case hr => first | (go_simp; done) | (go_simp; rfl)); intro gb333 hg w214 hbox hb; have BK333 := Aside0.mk (hbox); have GW333 := geN HB hg; have GE333 := geN HB hg; have NB326_333 := neL BK326 hg; have NB333_326 := neG BK326 hg; replace HO332 := Aside0.mk (Kd.V_below (Kd.V_elderB (pV HO332) gb333 (Nat.le_of_eq hg.symm)) hb); replace BK326 := bB BK326 hb; replace HB := stB HB hb; clear hb hbox hg; have hnb215 := NB333_326.out; have hnc215 := NB326_333.out; have hcz216_0 : w214.cell? ⟨gb333, 0, none⟩ = some (.int .u64 0) := (blk_cell BK333.out 0).trans rfl; have hcz216_1 : w214.cell? ⟨gb333, 1, none⟩ = some (.slice none 0 0) := (blk_cell BK333.out 1).trans rfl; have hfz216_0 := blk_frozen BK333.out 0; have hfz216_1 := blk_frozen BK333.out 1; obtain ⟨Ao217, co217, eo217⟩ := Kd.V_slice HO332.out; subst eo217; have hcz218_0 : w214.cell? ⟨gb326, 0, none⟩ = some (.int .u64 a0_0) := (blk_cell BK326.out 0).trans rfl; have hcz218_1 : w214.cell? ⟨gb326, 1, none⟩ = some (.slice A0_1 l0_1.length c0_1) := (blk_cell BK326.out 1).trans rfl; have hfz218_0 := blk_frozen BK326.out 0; have hfz218_1 := blk_frozen BK326.out 1) | ((with_reducible refine gate_callee (f := 15) rfl ?_); refine goesM_ (some 31) Try.func15 #[.agg #[.int .u64 a0_0, .slice A0_1 l0_1.length c0_1], .string a1, .int .i64 a2] ?_; (with_reducible refine (signed_Add.calls a0_0 _ _ l0_1 a1 a2 t334 t335 t338 _ ?side1 ?side2 A14.out).mono ?_); (case side1 => exact Kd.C_below HR0_1.out (pH HB)); (case side2 => exact HC0_1.out); rintro e w219 ⟨v336, rfl, ho0, hb⟩; refine ⟨_, rfl, ?_⟩; have HO337 := Aside0.mk (Kd.S_lower ho0 (below_size (pH HB))); replace HO332 := Aside0.mk (Kd.V_elder' (by (with_reducible repeat (first | apply Kd.V_alloc | apply Kd.V_drewN | apply Kd.V_drew)); exact (Kd.V_mono (Kd.V_far (p := ⟨gb333, 1, none⟩) (Kd.V_far (p := ⟨gb333, 0, none⟩) (Kd.V_mono HO332.out (fun k_ hk => (⟨hk, hk.2⟩ : _ ∧ k_ ≠ gb333))) (fun _ hk => hk.2) (.int .u64 t329)) (fun _ hk => hk.2) (.slice Ao217 t330.length co217)) (fun _ h_ => h_.1))) (Kd.S_base ho0) hb); replace BK326 := Aside0.mk (blk_below (g := gb326) (o := .cells #[.int .u64 a0_0, .slice A0_1 l0_1.length c0_1] 25 (0, 0)) (by (with_reducible repeat (first | refine blk_drewN ?_ _ | refine blk_drew ?_ | refine blk_alloc ?_ _)); refine blk_far ?_ NB326_333.out _; (with_reducible repeat (first | refine blk_drewN ?_ _ | refine blk_drew ?_ | refine blk_alloc ?_ _)); refine blk_far ?_ NB326_333.out _; (with_reducible repeat (first | refine blk_drewN ?_ _ | refine blk_drew ?_ | refine blk_alloc ?_ _)); exact BK326.out) hb); replace BK333 := Aside0.mk (blk_below (g := gb333) (o := .cells #[.int .u64 t329, .slice Ao217 t330.length co217] 30 (0, 0)) (by (with_reducible repeat (first | refine blk_drewN ?_ _ | refine blk_drew ?_ | refine blk_alloc ?_ _)); refine blk_put (cs := #[.int .u64 t329, .slice none 0 0]) ?_ 1 _ rfl; (with_reducible repeat (first | refine blk_drewN ?_ _ | refine blk_drew ?_ | refine blk_alloc ?_ _)); refine blk_put (cs := #[.int .u64 0, .slice none 0 0]) ?_ 0 _ rfl; (with_reducible repeat (first | refine blk_drewN ?_ _ | refine blk_drew ?_ | refine blk_alloc ?_ _)); exact BK333.out) hb); replace HB := stB HB hb; (try clear hb); (try clear hb2); (try clear hk); (try clear hi); (try clear ho0)) | ((with_reducible refine gate_dst (N := 8) rfl ?_); (try (refine gate_guard (by rfl) ?_; dsimp only)); refine box_event ?hg (N := 8) ?hd (cs := #[.int .u64 0, .slice none 0 0]) (t := 25) ?hr ?_; (case hd => rfl); (case hg => rfl); (case hr => first | (go_simp; done) | (go_simp; rfl)); intro gb339 hg w220 hbox hb; have BK339 := Aside0.mk (hbox); have GW339 := geN HB hg; have GE339 := geN HB hg; have NB326_339 := neL BK326 hg; have NB339_326 := neG BK326 hg; have NB333_339 := neL BK333 hg; have NB339_333 := neG BK333 hg; replace HO332 := Aside0.mk (Kd.V_below (Kd.V_elderB (pV HO332) gb339 (Nat.le_of_eq hg.symm)) hb); replace HO337 := Aside0.mk (Kd.S_below (pS HO337) hb); replace BK326 := bB BK326 hb; replace BK333 := bB BK333 hb; replace HB := stB HB hb; clear hb hbox hg; have hnb221 := NB339_326.out; have hnc221 := NB326_339.out; have hnb222 := NB339_333.out; have hnc222 := NB333_339.out; have hcz223_0 : w220.cell? ⟨gb339, 0, none⟩ = some (.int .u64 0) := (blk_cell BK339.out 0).trans rfl; have hcz223_1 : w220.cell? ⟨gb339, 1, none⟩ = some (.slice none 0 0) := (blk_cell BK339.out 1).trans rfl; have hfz223_0 := blk_frozen BK339.out 0; have hfz223_1 := blk_frozen BK339.out 1; obtain ⟨Ao224, co224, eo224⟩ := Kd.S_slice HO337.out; subst eo224; have hcz225_0 : w220.cell? ⟨gb326, 0, none⟩ = some (.int .u64 a0_0) := (blk_cell BK326.out 0).trans rfl; have hcz225_1 : w220.cell? ⟨gb326, 1, none⟩ = some (.slice A0_1 l0_1.length c0_1) := (blk_cell BK326.out 1).trans rfl; have hfz225_0 := blk_frozen BK326.out 0; have hfz225_1 := blk_frozen BK326.out 1) | ((with_reducible refine gate_callee (f := 16) rfl ?_); refine goesM_ (some 36) Try.func16 #[.agg #[.int .u64 a0_0, .slice A0_1 l0_1.length c0_1], .string a1] ?_; (with_reducible refine (signed_Get.calls kj3 a0_0 _ _ l0_1 a1 t340 _ ?side1 ?side2 A15.out).mono ?_); (case side1 => exact Kd.C_below HR0_1.out (pH HB)); (case side2 => exact HC0_1.out); rintro e w226 ⟨rfl, hb⟩; refine ⟨_, rfl, ?_⟩; replace HO332 := Aside0.mk (Kd.V_below (by (with_reducible repeat (first | apply Kd.V_alloc | apply Kd.V_drewN | apply Kd.V_drew)); exact (Kd.V_mono (Kd.V_far (p := ⟨gb339, 1, none⟩) (Kd.V_far (p := ⟨gb339, 0, none⟩) (Kd.V_mono HO332.out (fun k_ hk => (⟨hk, hk.2⟩ : _ ∧ k_ ≠ gb339))) (fun _ hk => hk.2) (.int .u64 t334)) (fun _ hk => hk.2) (.slice Ao224 t335.length co224)) (fun _ h_ => h_.1))) hb); replace HO337 := Aside0.mk (Kd.S_below (by (with_reducible repeat (first | apply Kd.S_alloc | apply Kd.S_drewN | apply Kd.S_drew)); exact (Kd.S_mono (Kd.S_far (p := ⟨gb339, 1, none⟩) (Kd.S_far (p := ⟨gb339, 0, none⟩) (Kd.S_types HO337.out BK339.out (by decide)) (fun _ hk => hk.2) (.int .u64 t334)) (fun _ hk => hk.2) (.slice Ao224 t335.length co224)) (fun _ h_ => h_.1))) hb); replace BK326 := Aside0.mk (blk_below (g := gb326) (o := .cells #[.int .u64 a0_0, .slice A0_1 l0_1.length c0_1] 25 (0, 0)) (by (with_reducible repeat (first | refine blk_drewN ?_ _ | refine blk_drew ?_ | refine blk_alloc ?_ _)); refine blk_far ?_ NB326_339.out _; (with_reducible repeat (first | refine blk_drewN ?_ _ | refine blk_drew ?_ | refine blk_alloc ?_ _)); refine blk_far ?_ NB326_339.out _; (with_reducible repeat (first | refine blk_drewN ?_ _ | refine blk_drew ?_ | refine blk_alloc ?_ _)); exact BK326.out) hb); replace BK333 := Aside0.mk (blk_below (g := gb333) (o := .cells #[.int .u64 t329, .slice Ao217 t330.length co217] 30 (0, 0)) (by (with_reducible repeat (first | refine blk_drewN ?_ _ | refine blk_drew ?_ | refine blk_alloc ?_ _)); refine blk_far ?_ NB333_339.out _; (with_reducible repeat (first | refine blk_drewN ?_ _ | refine blk_drew ?_ | refine blk_alloc ?_ _)); refine blk_far ?_ NB333_339.out _; (with_reducible repeat (first | refine blk_drewN ?_ _ | refine blk_drew ?_ | refine blk_alloc ?_ _)); exact BK333.out) hb); replace BK339 := Aside0.mk (blk_below (g := gb339) (o := .cells #[.int .u64 t334, .slice Ao224 t335.length co224] 25 (0, 0)) (by (with_reducible repeat (first | refine blk_drewN ?_ _ | refine blk_drew ?_ | refine blk_alloc ?_ _)); refine blk_put (cs := #[.int .u64 t334, .slice none 0 0]) ?_ 1 _ rfl; (with_reducible repeat (first | refine blk_drewN ?_ _ | refine blk_drew ?_ | refine blk_alloc ?_ _)); refine blk_put (cs := #[.int .u64 0, .slice none 0 0]) ?_ 0 _ rfl; (with_reducible repeat (first | refine blk_drewN ?_ _ | refine blk_drew ?_ | refine blk_alloc ?_ _)); exact BK339.out) hb); replace HB := stB HB hb; (try clear hb); (try clear hb2); (try clear hk); (try clear hi); have hcz227_0 : w226.cell? ⟨gb333, 0, none⟩ = some (.int .u64 t329) := (blk_cell BK333.out 0).trans rfl; have hcz227_1 : w226.cell? ⟨gb333, 1, none⟩ = some (.slice Ao217 t330.length co217) := (blk_cell BK333.out 1).trans rfl; have hfz227_0 := blk_frozen BK333.out 0; have hfz227_1 := blk_frozen BK333.out 1) | ((with_reducible refine gate_callee (f := 13) rfl ?_); refine goesM_ (some 38) Try.func13 #[.agg #[.int .u64 t329, .slice Ao217 t330.length co217]] ?_; (with_reducible refine (rillmeterref12_Right.calls kj3 t329 _ _ t330 false _ ?side1 ?side2 A16.out).mono ?_); (case side1 => repeat (first | exact (Kd.V_reads' HO332.out).2.2 | (with_reducible refine Kd.C_alloc ?_ _) | (with_reducible refine Kd.C_drewN ?_ _) | (with_reducible refine Kd.C_drew ?_))); (case side2 => exact (Kd.V_reads' HO332.out).2.1); rintro e w228 ⟨rfl, hb⟩; refine ⟨_, rfl, ?_⟩; replace HO332 := Aside0.mk (Kd.V_below (pV HO332) hb); replace HO337 := Aside0.mk (Kd.S_below (pS HO337) hb); replace BK326 := bB BK326 hb; replace BK333 := bB BK333 hb; replace BK339 := bB BK339 hb; replace HB := stB HB hb; (try clear hb); (try clear hb2); (try clear hk); (try clear hi); have hcz229_0 : w228.cell? ⟨gb326, 0, none⟩ = some (.int .u64 a0_0) := (blk_cell BK326.out 0).trans rfl; have hcz229_1 : w228.cell? ⟨gb326, 1, none⟩ = some (.slice A0_1 l0_1.length c0_1) := (blk_cell BK326.out 1).trans rfl; have hfz229_0 := blk_frozen BK326.out 0; have hfz229_1 := blk_frozen BK326.out 1) | ((with_reducible refine gate_callee (f := 17) rfl ?_); refine goesM_ (some 41) Try.func17 #[.agg #[.int .u64 a0_0, .slice A0_1 l0_1.length c0_1]] ?_; (with_reducible refine (signed_Right.calls a0_0 _ _ l0_1 false _ ?side1 ?side2 A185.out).mono ?_); (case side1 => repeat (first | exact (Kd.C_below HR0_1.out HB.out) | (with_reducible refine Kd.C_alloc ?_ _) | (with_reducible refine Kd.C_drewN ?_ _) | (with_reducible refine Kd.C_drew ?_))); (case side2 => exact HC0_1.out); rintro e w230 ⟨rfl, hb⟩; refine ⟨_, rfl, ?_⟩; replace HO332 := Aside0.mk (Kd.V_below (pV HO332) hb); replace HO337 := Aside0.mk (Kd.S_below (pS HO337) hb); replace BK326 := bB BK326 hb; replace BK333 := bB BK333 hb; replace BK339 := bB BK339 hb; replace HB := stB HB hb; (try clear hb); (try clear hb2); (try clear hk); (try clear hi); have hcz231_0 : w230.cell? ⟨gb339, 0, none⟩ = some (.int .u64 t334) := (blk_cell BK339.out 0).trans rfl; have hcz231_1 : w230.cell? ⟨gb339, 1, none⟩ = some (.slice Ao224 t335.length co224) := (blk_cell BK339.out 1).trans rfl; have hfz231_0 := blk_frozen BK339.out 0; have hfz231_1 := blk_frozen BK339.out 1; have hcz232_0 : w230.cell? ⟨gb326, 0, none⟩ = some (.int .u64 a0_0) := (blk_cell BK326.out 0).trans rfl; have hcz232_1 : w230.cell? ⟨gb326, 1, none⟩ = some (.slice A0_1 l0_1.length c0_1) := (blk_cell BK326.out 1).trans rfl; have hfz232_0 := blk_frozen BK326.out 0; have hfz232_1 := blk_frozen BK326.out 1) | (go_at_call 18; (with_reducible refine (signed_Cell.calls kj3 a0_0 _ _ l0_1 a1 0 t343 _ ?side1 ?side2 A209.out).mono ?_); (case side1 => repeat (first | exact (Kd.C_below HR0_1.out HB.out) | (with_reducible refine Kd.C_alloc ?_ _) | (with_reducible refine Kd.C_drewN ?_ _) | (with_reducible refine Kd.C_drew ?_))); (case side2 => exact HC0_1.out); rintro e w233 ⟨rfl, hb⟩; replace HO332 := Aside0.mk (Kd.V_below (pV HO332) hb); replace HO337 := Aside0.mk (Kd.S_below (pS HO337) hb); replace BK326 := bB BK326 hb; replace BK333 := bB BK333 hb; replace BK339 := bB BK339 hb; replace HB := stB HB hb; (try clear hb); (try clear hb2); (try clear hk); (try clear hi)) | (go_at_call 12; (with_reducible refine (rillmeterlaw12_awake.calls kj3  t344 _ A211.out).mono ?_); rintro e w234 ⟨rfl, hb⟩; replace HO332 := Aside0.mk (Kd.V_below (pV HO332) hb); replace HO337 := Aside0.mk (Kd.S_below (pS HO337) hb); replace BK326 := bB BK326 hb; replace BK333 := bB BK333 hb; replace BK339 := bB BK339 hb; replace HB := stB HB hb; (try clear hb); (try clear hb2); (try clear hk); (try clear hi)))
          go_ret
          exact ⟨by first | rfl | (simp [errW_none, errW_some] <;> rfl) | (simp [*, errW_none, errW_some] <;> rfl), by repeat (first | (with_reducible first | exact HB.out | apply below_alloc | apply pw_below_drewN | apply below_drew1 | refine below_set ?_ GE326.out | refine below_set ?_ GE333.out | refine below_set ?_ GE339.out) | exact HB.out)⟩
         ·
          rw [if_neg c210] at H
          have c210b0 : (t343 == 0) = false := beq_eq_false_iff_ne.mpr c210
          have c210b1 : (t343 != 0) = true := bne_iff_ne.mpr c210
          obtain rfl := Option.some.inj H
          have hcz235_0 : wc.cell? ⟨gb326, 0, none⟩ = some (.int .u64 a0_0) := (blk_cell BK326.out 0).trans rfl
          have hcz235_1 : wc.cell? ⟨gb326, 1, none⟩ = some (.slice A0_1 l0_1.length c0_1) := (blk_cell BK326.out 1).trans rfl
          have hfz235_0 := blk_frozen BK326.out 0
          have hfz235_1 := blk_frozen BK326.out 1
          go_wp2_with (first | ((with_reducible refine gate_callee (f := 11) rfl ?_); refine goesM_ (some 26) Try.func11 #[.agg #[.int .u64 a0_0, .slice A0_1 l0_1.length c0_1]] ?_; (with_reducible refine (rillmeterlaw12_ref.calls a0_0 (fun k_ => k_ < w.heap.size) _ _ l0_1 t329 t330 _ ?side1 A13.out).mono ?_); (case side1 => exact Kd.V_mk HC0_1.out (Kd.F_below (Kd.C_F (Kd.heap_slice 3 (Kd.heap_int .i64)) HR0_1.out) (pH HB))); rintro e w236 ⟨v331, rfl, ho0, hb⟩; refine ⟨_, rfl, ?_⟩; have HO332 := Aside0.mk (Kd.V_lower (Kd.V_mono (ok' := fun k_ => k_ ≠ gb326) ho0 (fun k_ hk_ => Or.elim hk_ (fun hs_ => fun e_ => Nat.not_le.2 hs_ (by rw [e_]; exact GW326.out)) (fun hn_ => (Kd.freshB (g := gb326) (o := .cells #[.int .u64 a0_0, .slice A0_1 l0_1.length c0_1] 25 (0, 0)) (pB BK326) k_ hn_)))) (below_size (pH HB))); replace BK326 := bB BK326 hb; replace HB := stB HB hb; (try clear hb); (try clear hb2); (try clear hk); (try clear hi); (try clear ho0)) | ((with_reducible refine gate_dst (N := 7) rfl ?_); (try (refine gate_guard (by rfl) ?_; dsimp only)); refine box_event ?hg (N := 7) ?hd (cs := #[.int .u64 0, .slice none 0 0]) (t := 30) ?hr ?_; (case hd => rfl); (case hg => rfl); (case hr => first | (go_simp; done) | (go_simp; rfl)); intro gb333 hg w237 hbox hb; have BK333 := Aside0.mk (hbox); have GW333 := geN HB hg; have GE333 := geN HB hg; have NB326_333 := neL BK326 hg; have NB333_326 := neG BK326 hg; replace HO332 := Aside0.mk (Kd.V_below (Kd.V_elderB (pV HO332) gb333 (Nat.le_of_eq hg.symm)) hb); replace BK326 := bB BK326 hb; replace HB := stB HB hb; clear hb hbox hg; have hnb238 := NB333_326.out; have hnc238 := NB326_333.out; have hcz239_0 : w237.cell? ⟨gb333, 0, none⟩ = some (.int .u64 0) := (blk_cell BK333.out 0).trans rfl; have hcz239_1 : w237.cell? ⟨gb333, 1, none⟩ = some (.slice none 0 0) := (blk_cell BK333.out 1).trans rfl; have hfz239_0 := blk_frozen BK333.out 0; have hfz239_1 := blk_frozen BK333.out 1; obtain ⟨Ao240, co240, eo240⟩ := Kd.V_slice HO332.out; subst eo240; have hcz241_0 : w237.cell? ⟨gb326, 0, none⟩ = some (.int .u64 a0_0) := (blk_cell BK326.out 0).trans rfl; have hcz241_1 : w237.cell? ⟨gb326, 1, none⟩ = some (.slice A0_1 l0_1.length c0_1) := (blk_cell BK326.out 1).trans rfl; have hfz241_0 := blk_frozen BK326.out 0; have hfz241_1 := blk_frozen BK326.out 1) | ((with_reducible refine gate_callee (f := 15) rfl ?_); refine goesM_ (some 31) Try.func15 #[.agg #[.int .u64 a0_0, .slice A0_1 l0_1.length c0_1], .string a1, .int .i64 a2] ?_; (with_reducible refine (signed_Add.calls a0_0 _ _ l0_1 a1 a2 t334 t335 t338 _ ?side1 ?side2 A14.out).mono ?_); (case side1 => exact Kd.C_below HR0_1.out (pH HB)); (case side2 => exact HC0_1.out); rintro e w242 ⟨v336, rfl, ho0, hb⟩; refine ⟨_, rfl, ?_⟩; have HO337 := Aside0.mk (Kd.S_lower ho0 (below_size (pH HB))); replace HO332 := Aside0.mk (Kd.V_elder' (by (with_reducible repeat (first | apply Kd.V_alloc | apply Kd.V_drewN | apply Kd.V_drew)); exact (Kd.V_mono (Kd.V_far (p := ⟨gb333, 1, none⟩) (Kd.V_far (p := ⟨gb333, 0, none⟩) (Kd.V_mono HO332.out (fun k_ hk => (⟨hk, hk.2⟩ : _ ∧ k_ ≠ gb333))) (fun _ hk => hk.2) (.int .u64 t329)) (fun _ hk => hk.2) (.slice Ao240 t330.length co240)) (fun _ h_ => h_.1))) (Kd.S_base ho0) hb); replace BK326 := Aside0.mk (blk_below (g := gb326) (o := .cells #[.int .u64 a0_0, .slice A0_1 l0_1.length c0_1] 25 (0, 0)) (by (with_reducible repeat (first | refine blk_drewN ?_ _ | refine blk_drew ?_ | refine blk_alloc ?_ _)); refine blk_far ?_ NB326_333.out _; (with_reducible repeat (first | refine blk_drewN ?_ _ | refine blk_drew ?_ | refine blk_alloc ?_ _)); refine blk_far ?_ NB326_333.out _; (with_reducible repeat (first | refine blk_drewN ?_ _ | refine blk_drew ?_ | refine blk_alloc ?_ _)); exact BK326.out) hb); replace BK333 := Aside0.mk (blk_below (g := gb333) (o := .cells #[.int .u64 t329, .slice Ao240 t330.length co240] 30 (0, 0)) (by (with_reducible repeat (first | refine blk_drewN ?_ _ | refine blk_drew ?_ | refine blk_alloc ?_ _)); refine blk_put (cs := #[.int .u64 t329, .slice none 0 0]) ?_ 1 _ rfl; (with_reducible repeat (first | refine blk_drewN ?_ _ | refine blk_drew ?_ | refine blk_alloc ?_ _)); refine blk_put (cs := #[.int .u64 0, .slice none 0 0]) ?_ 0 _ rfl; (with_reducible repeat (first | refine blk_drewN ?_ _ | refine blk_drew ?_ | refine blk_alloc ?_ _)); exact BK333.out) hb); replace HB := stB HB hb; (try clear hb); (try clear hb2); (try clear hk); (try clear hi); (try clear ho0)) | ((with_reducible refine gate_dst (N := 8) rfl ?_); (try (refine gate_guard (by rfl) ?_; dsimp only)); refine box_event ?hg (N := 8) ?hd (cs := #[.int .u64 0, .slice none 0 0]) (t := 25) ?hr ?_; (case hd => rfl); (case hg => rfl); (case hr => first | (go_simp; done) | (go_simp; rfl)); intro gb339 hg w243 hbox hb; have BK339 := Aside0.mk (hbox); have GW339 := geN HB hg; have GE339 := geN HB hg; have NB326_339 := neL BK326 hg; have NB339_326 := neG BK326 hg; have NB333_339 := neL BK333 hg; have NB339_333 := neG BK333 hg; replace HO332 := Aside0.mk (Kd.V_below (Kd.V_elderB (pV HO332) gb339 (Nat.le_of_eq hg.symm)) hb); replace HO337 := Aside0.mk (Kd.S_below (pS HO337) hb); replace BK326 := bB BK326 hb; replace BK333 := bB BK333 hb; replace HB := stB HB hb; clear hb hbox hg; have hnb244 := NB339_326.out; have hnc244 := NB326_339.out; have hnb245 := NB339_333.out; have hnc245 := NB333_339.out; have hcz246_0 : w243.cell? ⟨gb339, 0, none⟩ = some (.int .u64 0) := (blk_cell BK339.out 0).trans rfl; have hcz246_1 : w243.cell? ⟨gb339, 1, none⟩ = some (.slice none 0 0) := (blk_cell BK339.out 1).trans rfl; have hfz246_0 := blk_frozen BK339.out 0; have hfz246_1 := blk_frozen BK339.out 1; obtain ⟨Ao247, co247, eo247⟩ := Kd.S_slice HO337.out; subst eo247; have hcz248_0 : w243.cell? ⟨gb326, 0, none⟩ = some (.int .u64 a0_0) := (blk_cell BK326.out 0).trans rfl; have hcz248_1 : w243.cell? ⟨gb326, 1, none⟩ = some (.slice A0_1 l0_1.length c0_1) := (blk_cell BK326.out 1).trans rfl; have hfz248_0 := blk_frozen BK326.out 0; have hfz248_1 := blk_frozen BK326.out 1) | ((with_reducible refine gate_callee (f := 16) rfl ?_); refine goesM_ (some 36) Try.func16 #[.agg #[.int .u64 a0_0, .slice A0_1 l0_1.length c0_1], .string a1] ?_; (with_reducible refine (signed_Get.calls kj3 a0_0 _ _ l0_1 a1 t340 _ ?side1 ?side2 A15.out).mono ?_); (case side1 => exact Kd.C_below HR0_1.out (pH HB)); (case side2 => exact HC0_1.out); rintro e w249 ⟨rfl, hb⟩; refine ⟨_, rfl, ?_⟩; replace HO332 := Aside0.mk (Kd.V_below (by (with_reducible repeat (first | apply Kd.V_alloc | apply Kd.V_drewN | apply Kd.V_drew)); exact (Kd.V_mono (Kd.V_far (p := ⟨gb339, 1, none⟩) (Kd.V_far (p := ⟨gb339, 0, none⟩) (Kd.V_mono HO332.out (fun k_ hk => (⟨hk, hk.2⟩ : _ ∧ k_ ≠ gb339))) (fun _ hk => hk.2) (.int .u64 t334)) (fun _ hk => hk.2) (.slice Ao247 t335.length co247)) (fun _ h_ => h_.1))) hb); replace HO337 := Aside0.mk (Kd.S_below (by (with_reducible repeat (first | apply Kd.S_alloc | apply Kd.S_drewN | apply Kd.S_drew)); exact (Kd.S_mono (Kd.S_far (p := ⟨gb339, 1, none⟩) (Kd.S_far (p := ⟨gb339, 0, none⟩) (Kd.S_types HO337.out BK339.out (by decide)) (fun _ hk => hk.2) (.int .u64 t334)) (fun _ hk => hk.2) (.slice Ao247 t335.length co247)) (fun _ h_ => h_.1))) hb); replace BK326 := Aside0.mk (blk_below (g := gb326) (o := .cells #[.int .u64 a0_0, .slice A0_1 l0_1.length c0_1] 25 (0, 0)) (by (with_reducible repeat (first | refine blk_drewN ?_ _ | refine blk_drew ?_ | refine blk_alloc ?_ _)); refine blk_far ?_ NB326_339.out _; (with_reducible repeat (first | refine blk_drewN ?_ _ | refine blk_drew ?_ | refine blk_alloc ?_ _)); refine blk_far ?_ NB326_339.out _; (with_reducible repeat (first | refine blk_drewN ?_ _ | refine blk_drew ?_ | refine blk_alloc ?_ _)); exact BK326.out) hb); replace BK333 := Aside0.mk (blk_below (g := gb333) (o := .cells #[.int .u64 t329, .slice Ao240 t330.length co240] 30 (0, 0)) (by (with_reducible repeat (first | refine blk_drewN ?_ _ | refine blk_drew ?_ | refine blk_alloc ?_ _)); refine blk_far ?_ NB333_339.out _; (with_reducible repeat (first | refine blk_drewN ?_ _ | refine blk_drew ?_ | refine blk_alloc ?_ _)); refine blk_far ?_ NB333_339.out _; (with_reducible repeat (first | refine blk_drewN ?_ _ | refine blk_drew ?_ | refine blk_alloc ?_ _)); exact BK333.out) hb); replace BK339 := Aside0.mk (blk_below (g := gb339) (o := .cells #[.int .u64 t334, .slice Ao247 t335.length co247] 25 (0, 0)) (by (with_reducible repeat (first | refine blk_drewN ?_ _ | refine blk_drew ?_ | refine blk_alloc ?_ _)); refine blk_put (cs := #[.int .u64 t334, .slice none 0 0]) ?_ 1 _ rfl; (with_reducible repeat (first | refine blk_drewN ?_ _ | refine blk_drew ?_ | refine blk_alloc ?_ _)); refine blk_put (cs := #[.int .u64 0, .slice none 0 0]) ?_ 0 _ rfl; (with_reducible repeat (first | refine blk_drewN ?_ _ | refine blk_drew ?_ | refine blk_alloc ?_ _)); exact BK339.out) hb); replace HB := stB HB hb; (try clear hb); (try clear hb2); (try clear hk); (try clear hi); have hcz250_0 : w249.cell? ⟨gb333, 0, none⟩ = some (.int .u64 t329) := (blk_cell BK333.out 0).trans rfl; have hcz250_1 : w249.cell? ⟨gb333, 1, none⟩ = some (.slice Ao240 t330.length co240) := (blk_cell BK333.out 1).trans rfl; have hfz250_0 := blk_frozen BK333.out 0; have hfz250_1 := blk_frozen BK333.out 1) | ((with_reducible refine gate_callee (f := 13) rfl ?_); refine goesM_ (some 38) Try.func13 #[.agg #[.int .u64 t329, .slice Ao240 t330.length co240]] ?_; (with_reducible refine (rillmeterref12_Right.calls kj3 t329 _ _ t330 false _ ?side1 ?side2 A16.out).mono ?_); (case side1 => repeat (first | exact (Kd.V_reads' HO332.out).2.2 | (with_reducible refine Kd.C_alloc ?_ _) | (with_reducible refine Kd.C_drewN ?_ _) | (with_reducible refine Kd.C_drew ?_))); (case side2 => exact (Kd.V_reads' HO332.out).2.1); rintro e w251 ⟨rfl, hb⟩; refine ⟨_, rfl, ?_⟩; replace HO332 := Aside0.mk (Kd.V_below (pV HO332) hb); replace HO337 := Aside0.mk (Kd.S_below (pS HO337) hb); replace BK326 := bB BK326 hb; replace BK333 := bB BK333 hb; replace BK339 := bB BK339 hb; replace HB := stB HB hb; (try clear hb); (try clear hb2); (try clear hk); (try clear hi); have hcz252_0 : w251.cell? ⟨gb326, 0, none⟩ = some (.int .u64 a0_0) := (blk_cell BK326.out 0).trans rfl; have hcz252_1 : w251.cell? ⟨gb326, 1, none⟩ = some (.slice A0_1 l0_1.length c0_1) := (blk_cell BK326.out 1).trans rfl; have hfz252_0 := blk_frozen BK326.out 0; have hfz252_1 := blk_frozen BK326.out 1) | ((with_reducible refine gate_callee (f := 17) rfl ?_); refine goesM_ (some 41) Try.func17 #[.agg #[.int .u64 a0_0, .slice A0_1 l0_1.length c0_1]] ?_; (with_reducible refine (signed_Right.calls a0_0 _ _ l0_1 false _ ?side1 ?side2 A185.out).mono ?_); (case side1 => repeat (first | exact (Kd.C_below HR0_1.out HB.out) | (with_reducible refine Kd.C_alloc ?_ _) | (with_reducible refine Kd.C_drewN ?_ _) | (with_reducible refine Kd.C_drew ?_))); (case side2 => exact HC0_1.out); rintro e w253 ⟨rfl, hb⟩; refine ⟨_, rfl, ?_⟩; replace HO332 := Aside0.mk (Kd.V_below (pV HO332) hb); replace HO337 := Aside0.mk (Kd.S_below (pS HO337) hb); replace BK326 := bB BK326 hb; replace BK333 := bB BK333 hb; replace BK339 := bB BK339 hb; replace HB := stB HB hb; (try clear hb); (try clear hb2); (try clear hk); (try clear hi); have hcz254_0 : w253.cell? ⟨gb339, 0, none⟩ = some (.int .u64 t334) := (blk_cell BK339.out 0).trans rfl; have hcz254_1 : w253.cell? ⟨gb339, 1, none⟩ = some (.slice Ao247 t335.length co247) := (blk_cell BK339.out 1).trans rfl; have hfz254_0 := blk_frozen BK339.out 0; have hfz254_1 := blk_frozen BK339.out 1; have hcz255_0 : w253.cell? ⟨gb326, 0, none⟩ = some (.int .u64 a0_0) := (blk_cell BK326.out 0).trans rfl; have hcz255_1 : w253.cell? ⟨gb326, 1, none⟩ = some (.slice A0_1 l0_1.length c0_1) := (blk_cell BK326.out 1).trans rfl; have hfz255_0 := blk_frozen BK326.out 0; have hfz255_1 := blk_frozen BK326.out 1) | (go_at_call 18; (with_reducible refine (signed_Cell.calls kj3 a0_0 _ _ l0_1 a1 0 t343 _ ?side1 ?side2 A209.out).mono ?_); (case side1 => repeat (first | exact (Kd.C_below HR0_1.out HB.out) | (with_reducible refine Kd.C_alloc ?_ _) | (with_reducible refine Kd.C_drewN ?_ _) | (with_reducible refine Kd.C_drew ?_))); (case side2 => exact HC0_1.out); rintro e w256 ⟨rfl, hb⟩; replace HO332 := Aside0.mk (Kd.V_below (pV HO332) hb); replace HO337 := Aside0.mk (Kd.S_below (pS HO337) hb); replace BK326 := bB BK326 hb; replace BK333 := bB BK333 hb; replace BK339 := bB BK339 hb; replace HB := stB HB hb; (try clear hb); (try clear hb2); (try clear hk); (try clear hi)))
          go_ret
          exact ⟨by first | rfl | (simp [errW_none, errW_some] <;> rfl) | (simp [*, errW_none, errW_some] <;> rfl), by repeat (first | (with_reducible first | exact HB.out | apply below_alloc | apply pw_below_drewN | apply below_drew1 | refine below_set ?_ GE326.out | refine below_set ?_ GE333.out | refine below_set ?_ GE339.out) | exact HB.out)⟩
        ·
         rw [if_neg c208] at H
         have c208b0 : (t340 == 0) = false := beq_eq_false_iff_ne.mpr c208
         have c208b1 : (t340 != 0) = true := bne_iff_ne.mpr c208
         obtain rfl := Option.some.inj H
         have hcz257_0 : wc.cell? ⟨gb326, 0, none⟩ = some (.int .u64 a0_0) := (blk_cell BK326.out 0).trans rfl
         have hcz257_1 : wc.cell? ⟨gb326, 1, none⟩ = some (.slice A0_1 l0_1.length c0_1) := (blk_cell BK326.out 1).trans rfl
         have hfz257_0 := blk_frozen BK326.out 0
         have hfz257_1 := blk_frozen BK326.out 1
         go_wp2_with (first | ((with_reducible refine gate_callee (f := 11) rfl ?_); refine goesM_ (some 26) Try.func11 #[.agg #[.int .u64 a0_0, .slice A0_1 l0_1.length c0_1]] ?_; (with_reducible refine (rillmeterlaw12_ref.calls a0_0 (fun k_ => k_ < w.heap.size) _ _ l0_1 t329 t330 _ ?side1 A13.out).mono ?_); (case side1 => exact Kd.V_mk HC0_1.out (Kd.F_below (Kd.C_F (Kd.heap_slice 3 (Kd.heap_int .i64)) HR0_1.out) (pH HB))); rintro e w258 ⟨v331, rfl, ho0, hb⟩; refine ⟨_, rfl, ?_⟩; have HO332 := Aside0.mk (Kd.V_lower (Kd.V_mono (ok' := fun k_ => k_ ≠ gb326) ho0 (fun k_ hk_ => Or.elim hk_ (fun hs_ => fun e_ => Nat.not_le.2 hs_ (by rw [e_]; exact GW326.out)) (fun hn_ => (Kd.freshB (g := gb326) (o := .cells #[.int .u64 a0_0, .slice A0_1 l0_1.length c0_1] 25 (0, 0)) (pB BK326) k_ hn_)))) (below_size (pH HB))); replace BK326 := bB BK326 hb; replace HB := stB HB hb; (try clear hb); (try clear hb2); (try clear hk); (try clear hi); (try clear ho0)) | ((with_reducible refine gate_dst (N := 7) rfl ?_); (try (refine gate_guard (by rfl) ?_; dsimp only)); refine box_event ?hg (N := 7) ?hd (cs := #[.int .u64 0, .slice none 0 0]) (t := 30) ?hr ?_; (case hd => rfl); (case hg => rfl); (case hr => first | (go_simp; done) | (go_simp; rfl)); intro gb333 hg w259 hbox hb; have BK333 := Aside0.mk (hbox); have GW333 := geN HB hg; have GE333 := geN HB hg; have NB326_333 := neL BK326 hg; have NB333_326 := neG BK326 hg; replace HO332 := Aside0.mk (Kd.V_below (Kd.V_elderB (pV HO332) gb333 (Nat.le_of_eq hg.symm)) hb); replace BK326 := bB BK326 hb; replace HB := stB HB hb; clear hb hbox hg; have hnb260 := NB333_326.out; have hnc260 := NB326_333.out; have hcz261_0 : w259.cell? ⟨gb333, 0, none⟩ = some (.int .u64 0) := (blk_cell BK333.out 0).trans rfl; have hcz261_1 : w259.cell? ⟨gb333, 1, none⟩ = some (.slice none 0 0) := (blk_cell BK333.out 1).trans rfl; have hfz261_0 := blk_frozen BK333.out 0; have hfz261_1 := blk_frozen BK333.out 1; obtain ⟨Ao262, co262, eo262⟩ := Kd.V_slice HO332.out; subst eo262; have hcz263_0 : w259.cell? ⟨gb326, 0, none⟩ = some (.int .u64 a0_0) := (blk_cell BK326.out 0).trans rfl; have hcz263_1 : w259.cell? ⟨gb326, 1, none⟩ = some (.slice A0_1 l0_1.length c0_1) := (blk_cell BK326.out 1).trans rfl; have hfz263_0 := blk_frozen BK326.out 0; have hfz263_1 := blk_frozen BK326.out 1) | ((with_reducible refine gate_callee (f := 15) rfl ?_); refine goesM_ (some 31) Try.func15 #[.agg #[.int .u64 a0_0, .slice A0_1 l0_1.length c0_1], .string a1, .int .i64 a2] ?_; (with_reducible refine (signed_Add.calls a0_0 _ _ l0_1 a1 a2 t334 t335 t338 _ ?side1 ?side2 A14.out).mono ?_); (case side1 => exact Kd.C_below HR0_1.out (pH HB)); (case side2 => exact HC0_1.out); rintro e w264 ⟨v336, rfl, ho0, hb⟩; refine ⟨_, rfl, ?_⟩; have HO337 := Aside0.mk (Kd.S_lower ho0 (below_size (pH HB))); replace HO332 := Aside0.mk (Kd.V_elder' (by (with_reducible repeat (first | apply Kd.V_alloc | apply Kd.V_drewN | apply Kd.V_drew)); exact (Kd.V_mono (Kd.V_far (p := ⟨gb333, 1, none⟩) (Kd.V_far (p := ⟨gb333, 0, none⟩) (Kd.V_mono HO332.out (fun k_ hk => (⟨hk, hk.2⟩ : _ ∧ k_ ≠ gb333))) (fun _ hk => hk.2) (.int .u64 t329)) (fun _ hk => hk.2) (.slice Ao262 t330.length co262)) (fun _ h_ => h_.1))) (Kd.S_base ho0) hb); replace BK326 := Aside0.mk (blk_below (g := gb326) (o := .cells #[.int .u64 a0_0, .slice A0_1 l0_1.length c0_1] 25 (0, 0)) (by (with_reducible repeat (first | refine blk_drewN ?_ _ | refine blk_drew ?_ | refine blk_alloc ?_ _)); refine blk_far ?_ NB326_333.out _; (with_reducible repeat (first | refine blk_drewN ?_ _ | refine blk_drew ?_ | refine blk_alloc ?_ _)); refine blk_far ?_ NB326_333.out _; (with_reducible repeat (first | refine blk_drewN ?_ _ | refine blk_drew ?_ | refine blk_alloc ?_ _)); exact BK326.out) hb); replace BK333 := Aside0.mk (blk_below (g := gb333) (o := .cells #[.int .u64 t329, .slice Ao262 t330.length co262] 30 (0, 0)) (by (with_reducible repeat (first | refine blk_drewN ?_ _ | refine blk_drew ?_ | refine blk_alloc ?_ _)); refine blk_put (cs := #[.int .u64 t329, .slice none 0 0]) ?_ 1 _ rfl; (with_reducible repeat (first | refine blk_drewN ?_ _ | refine blk_drew ?_ | refine blk_alloc ?_ _)); refine blk_put (cs := #[.int .u64 0, .slice none 0 0]) ?_ 0 _ rfl; (with_reducible repeat (first | refine blk_drewN ?_ _ | refine blk_drew ?_ | refine blk_alloc ?_ _)); exact BK333.out) hb); replace HB := stB HB hb; (try clear hb); (try clear hb2); (try clear hk); (try clear hi); (try clear ho0)) | ((with_reducible refine gate_dst (N := 8) rfl ?_); (try (refine gate_guard (by rfl) ?_; dsimp only)); refine box_event ?hg (N := 8) ?hd (cs := #[.int .u64 0, .slice none 0 0]) (t := 25) ?hr ?_; (case hd => rfl); (case hg => rfl); (case hr => first | (go_simp; done) | (go_simp; rfl)); intro gb339 hg w265 hbox hb; have BK339 := Aside0.mk (hbox); have GW339 := geN HB hg; have GE339 := geN HB hg; have NB326_339 := neL BK326 hg; have NB339_326 := neG BK326 hg; have NB333_339 := neL BK333 hg; have NB339_333 := neG BK333 hg; replace HO332 := Aside0.mk (Kd.V_below (Kd.V_elderB (pV HO332) gb339 (Nat.le_of_eq hg.symm)) hb); replace HO337 := Aside0.mk (Kd.S_below (pS HO337) hb); replace BK326 := bB BK326 hb; replace BK333 := bB BK333 hb; replace HB := stB HB hb; clear hb hbox hg; have hnb266 := NB339_326.out; have hnc266 := NB326_339.out; have hnb267 := NB339_333.out; have hnc267 := NB333_339.out; have hcz268_0 : w265.cell? ⟨gb339, 0, none⟩ = some (.int .u64 0) := (blk_cell BK339.out 0).trans rfl; have hcz268_1 : w265.cell? ⟨gb339, 1, none⟩ = some (.slice none 0 0) := (blk_cell BK339.out 1).trans rfl; have hfz268_0 := blk_frozen BK339.out 0; have hfz268_1 := blk_frozen BK339.out 1; obtain ⟨Ao269, co269, eo269⟩ := Kd.S_slice HO337.out; subst eo269; have hcz270_0 : w265.cell? ⟨gb326, 0, none⟩ = some (.int .u64 a0_0) := (blk_cell BK326.out 0).trans rfl; have hcz270_1 : w265.cell? ⟨gb326, 1, none⟩ = some (.slice A0_1 l0_1.length c0_1) := (blk_cell BK326.out 1).trans rfl; have hfz270_0 := blk_frozen BK326.out 0; have hfz270_1 := blk_frozen BK326.out 1) | ((with_reducible refine gate_callee (f := 16) rfl ?_); refine goesM_ (some 36) Try.func16 #[.agg #[.int .u64 a0_0, .slice A0_1 l0_1.length c0_1], .string a1] ?_; (with_reducible refine (signed_Get.calls kj3 a0_0 _ _ l0_1 a1 t340 _ ?side1 ?side2 A15.out).mono ?_); (case side1 => exact Kd.C_below HR0_1.out (pH HB)); (case side2 => exact HC0_1.out); rintro e w271 ⟨rfl, hb⟩; refine ⟨_, rfl, ?_⟩; replace HO332 := Aside0.mk (Kd.V_below (by (with_reducible repeat (first | apply Kd.V_alloc | apply Kd.V_drewN | apply Kd.V_drew)); exact (Kd.V_mono (Kd.V_far (p := ⟨gb339, 1, none⟩) (Kd.V_far (p := ⟨gb339, 0, none⟩) (Kd.V_mono HO332.out (fun k_ hk => (⟨hk, hk.2⟩ : _ ∧ k_ ≠ gb339))) (fun _ hk => hk.2) (.int .u64 t334)) (fun _ hk => hk.2) (.slice Ao269 t335.length co269)) (fun _ h_ => h_.1))) hb); replace HO337 := Aside0.mk (Kd.S_below (by (with_reducible repeat (first | apply Kd.S_alloc | apply Kd.S_drewN | apply Kd.S_drew)); exact (Kd.S_mono (Kd.S_far (p := ⟨gb339, 1, none⟩) (Kd.S_far (p := ⟨gb339, 0, none⟩) (Kd.S_types HO337.out BK339.out (by decide)) (fun _ hk => hk.2) (.int .u64 t334)) (fun _ hk => hk.2) (.slice Ao269 t335.length co269)) (fun _ h_ => h_.1))) hb); replace BK326 := Aside0.mk (blk_below (g := gb326) (o := .cells #[.int .u64 a0_0, .slice A0_1 l0_1.length c0_1] 25 (0, 0)) (by (with_reducible repeat (first | refine blk_drewN ?_ _ | refine blk_drew ?_ | refine blk_alloc ?_ _)); refine blk_far ?_ NB326_339.out _; (with_reducible repeat (first | refine blk_drewN ?_ _ | refine blk_drew ?_ | refine blk_alloc ?_ _)); refine blk_far ?_ NB326_339.out _; (with_reducible repeat (first | refine blk_drewN ?_ _ | refine blk_drew ?_ | refine blk_alloc ?_ _)); exact BK326.out) hb); replace BK333 := Aside0.mk (blk_below (g := gb333) (o := .cells #[.int .u64 t329, .slice Ao262 t330.length co262] 30 (0, 0)) (by (with_reducible repeat (first | refine blk_drewN ?_ _ | refine blk_drew ?_ | refine blk_alloc ?_ _)); refine blk_far ?_ NB333_339.out _; (with_reducible repeat (first | refine blk_drewN ?_ _ | refine blk_drew ?_ | refine blk_alloc ?_ _)); refine blk_far ?_ NB333_339.out _; (with_reducible repeat (first | refine blk_drewN ?_ _ | refine blk_drew ?_ | refine blk_alloc ?_ _)); exact BK333.out) hb); replace BK339 := Aside0.mk (blk_below (g := gb339) (o := .cells #[.int .u64 t334, .slice Ao269 t335.length co269] 25 (0, 0)) (by (with_reducible repeat (first | refine blk_drewN ?_ _ | refine blk_drew ?_ | refine blk_alloc ?_ _)); refine blk_put (cs := #[.int .u64 t334, .slice none 0 0]) ?_ 1 _ rfl; (with_reducible repeat (first | refine blk_drewN ?_ _ | refine blk_drew ?_ | refine blk_alloc ?_ _)); refine blk_put (cs := #[.int .u64 0, .slice none 0 0]) ?_ 0 _ rfl; (with_reducible repeat (first | refine blk_drewN ?_ _ | refine blk_drew ?_ | refine blk_alloc ?_ _)); exact BK339.out) hb); replace HB := stB HB hb; (try clear hb); (try clear hb2); (try clear hk); (try clear hi); have hcz272_0 : w271.cell? ⟨gb333, 0, none⟩ = some (.int .u64 t329) := (blk_cell BK333.out 0).trans rfl; have hcz272_1 : w271.cell? ⟨gb333, 1, none⟩ = some (.slice Ao262 t330.length co262) := (blk_cell BK333.out 1).trans rfl; have hfz272_0 := blk_frozen BK333.out 0; have hfz272_1 := blk_frozen BK333.out 1) | ((with_reducible refine gate_callee (f := 13) rfl ?_); refine goesM_ (some 38) Try.func13 #[.agg #[.int .u64 t329, .slice Ao262 t330.length co262]] ?_; (with_reducible refine (rillmeterref12_Right.calls kj3 t329 _ _ t330 false _ ?side1 ?side2 A16.out).mono ?_); (case side1 => repeat (first | exact (Kd.V_reads' HO332.out).2.2 | (with_reducible refine Kd.C_alloc ?_ _) | (with_reducible refine Kd.C_drewN ?_ _) | (with_reducible refine Kd.C_drew ?_))); (case side2 => exact (Kd.V_reads' HO332.out).2.1); rintro e w273 ⟨rfl, hb⟩; refine ⟨_, rfl, ?_⟩; replace HO332 := Aside0.mk (Kd.V_below (pV HO332) hb); replace HO337 := Aside0.mk (Kd.S_below (pS HO337) hb); replace BK326 := bB BK326 hb; replace BK333 := bB BK333 hb; replace BK339 := bB BK339 hb; replace HB := stB HB hb; (try clear hb); (try clear hb2); (try clear hk); (try clear hi); have hcz274_0 : w273.cell? ⟨gb326, 0, none⟩ = some (.int .u64 a0_0) := (blk_cell BK326.out 0).trans rfl; have hcz274_1 : w273.cell? ⟨gb326, 1, none⟩ = some (.slice A0_1 l0_1.length c0_1) := (blk_cell BK326.out 1).trans rfl; have hfz274_0 := blk_frozen BK326.out 0; have hfz274_1 := blk_frozen BK326.out 1) | ((with_reducible refine gate_callee (f := 17) rfl ?_); refine goesM_ (some 41) Try.func17 #[.agg #[.int .u64 a0_0, .slice A0_1 l0_1.length c0_1]] ?_; (with_reducible refine (signed_Right.calls a0_0 _ _ l0_1 false _ ?side1 ?side2 A185.out).mono ?_); (case side1 => repeat (first | exact (Kd.C_below HR0_1.out HB.out) | (with_reducible refine Kd.C_alloc ?_ _) | (with_reducible refine Kd.C_drewN ?_ _) | (with_reducible refine Kd.C_drew ?_))); (case side2 => exact HC0_1.out); rintro e w275 ⟨rfl, hb⟩; refine ⟨_, rfl, ?_⟩; replace HO332 := Aside0.mk (Kd.V_below (pV HO332) hb); replace HO337 := Aside0.mk (Kd.S_below (pS HO337) hb); replace BK326 := bB BK326 hb; replace BK333 := bB BK333 hb; replace BK339 := bB BK339 hb; replace HB := stB HB hb; (try clear hb); (try clear hb2); (try clear hk); (try clear hi); have hcz276_0 : w275.cell? ⟨gb339, 0, none⟩ = some (.int .u64 t334) := (blk_cell BK339.out 0).trans rfl; have hcz276_1 : w275.cell? ⟨gb339, 1, none⟩ = some (.slice Ao269 t335.length co269) := (blk_cell BK339.out 1).trans rfl; have hfz276_0 := blk_frozen BK339.out 0; have hfz276_1 := blk_frozen BK339.out 1))
         go_ret
         exact ⟨by first | rfl | (simp [errW_none, errW_some] <;> rfl) | (simp [*, errW_none, errW_some] <;> rfl), by repeat (first | (with_reducible first | exact HB.out | apply below_alloc | apply pw_below_drewN | apply below_drew1 | refine below_set ?_ GE326.out | refine below_set ?_ GE333.out | refine below_set ?_ GE339.out) | exact HB.out)⟩
       ·
        rw [if_neg c207] at H
        have c207b0 : ((t335.length : Int) == 0) = false := beq_eq_false_iff_ne.mpr c207
        have c207b1 : ((t335.length : Int) != 0) = true := bne_iff_ne.mpr c207
        have c207b2 : ¬ (t335 = []) := fun h_ => c207 (by rw [h_]; rfl)
        obtain rfl := Option.some.inj H
        have hcz277_0 : wc.cell? ⟨gb326, 0, none⟩ = some (.int .u64 a0_0) := (blk_cell BK326.out 0).trans rfl
        have hcz277_1 : wc.cell? ⟨gb326, 1, none⟩ = some (.slice A0_1 l0_1.length c0_1) := (blk_cell BK326.out 1).trans rfl
        have hfz277_0 := blk_frozen BK326.out 0
        have hfz277_1 := blk_frozen BK326.out 1
        go_wp2_with (first | ((with_reducible refine gate_callee (f := 11) rfl ?_); refine goesM_ (some 26) Try.func11 #[.agg #[.int .u64 a0_0, .slice A0_1 l0_1.length c0_1]] ?_; (with_reducible refine (rillmeterlaw12_ref.calls a0_0 (fun k_ => k_ < w.heap.size) _ _ l0_1 t329 t330 _ ?side1 A13.out).mono ?_); (case side1 => exact Kd.V_mk HC0_1.out (Kd.F_below (Kd.C_F (Kd.heap_slice 3 (Kd.heap_int .i64)) HR0_1.out) (pH HB))); rintro e w278 ⟨v331, rfl, ho0, hb⟩; refine ⟨_, rfl, ?_⟩; have HO332 := Aside0.mk (Kd.V_lower (Kd.V_mono (ok' := fun k_ => k_ ≠ gb326) ho0 (fun k_ hk_ => Or.elim hk_ (fun hs_ => fun e_ => Nat.not_le.2 hs_ (by rw [e_]; exact GW326.out)) (fun hn_ => (Kd.freshB (g := gb326) (o := .cells #[.int .u64 a0_0, .slice A0_1 l0_1.length c0_1] 25 (0, 0)) (pB BK326) k_ hn_)))) (below_size (pH HB))); replace BK326 := bB BK326 hb; replace HB := stB HB hb; (try clear hb); (try clear hb2); (try clear hk); (try clear hi); (try clear ho0)) | ((with_reducible refine gate_dst (N := 7) rfl ?_); (try (refine gate_guard (by rfl) ?_; dsimp only)); refine box_event ?hg (N := 7) ?hd (cs := #[.int .u64 0, .slice none 0 0]) (t := 30) ?hr ?_; (case hd => rfl); (case hg => rfl); (case hr => first | (go_simp; done) | (go_simp; rfl)); intro gb333 hg w279 hbox hb; have BK333 := Aside0.mk (hbox); have GW333 := geN HB hg; have GE333 := geN HB hg; have NB326_333 := neL BK326 hg; have NB333_326 := neG BK326 hg; replace HO332 := Aside0.mk (Kd.V_below (Kd.V_elderB (pV HO332) gb333 (Nat.le_of_eq hg.symm)) hb); replace BK326 := bB BK326 hb; replace HB := stB HB hb; clear hb hbox hg; have hnb280 := NB333_326.out; have hnc280 := NB326_333.out; have hcz281_0 : w279.cell? ⟨gb333, 0, none⟩ = some (.int .u64 0) := (blk_cell BK333.out 0).trans rfl; have hcz281_1 : w279.cell? ⟨gb333, 1, none⟩ = some (.slice none 0 0) := (blk_cell BK333.out 1).trans rfl; have hfz281_0 := blk_frozen BK333.out 0; have hfz281_1 := blk_frozen BK333.out 1; obtain ⟨Ao282, co282, eo282⟩ := Kd.V_slice HO332.out; subst eo282; have hcz283_0 : w279.cell? ⟨gb326, 0, none⟩ = some (.int .u64 a0_0) := (blk_cell BK326.out 0).trans rfl; have hcz283_1 : w279.cell? ⟨gb326, 1, none⟩ = some (.slice A0_1 l0_1.length c0_1) := (blk_cell BK326.out 1).trans rfl; have hfz283_0 := blk_frozen BK326.out 0; have hfz283_1 := blk_frozen BK326.out 1) | ((with_reducible refine gate_callee (f := 15) rfl ?_); refine goesM_ (some 31) Try.func15 #[.agg #[.int .u64 a0_0, .slice A0_1 l0_1.length c0_1], .string a1, .int .i64 a2] ?_; (with_reducible refine (signed_Add.calls a0_0 _ _ l0_1 a1 a2 t334 t335 t338 _ ?side1 ?side2 A14.out).mono ?_); (case side1 => exact Kd.C_below HR0_1.out (pH HB)); (case side2 => exact HC0_1.out); rintro e w284 ⟨v336, rfl, ho0, hb⟩; refine ⟨_, rfl, ?_⟩; have HO337 := Aside0.mk (Kd.S_lower ho0 (below_size (pH HB))); replace HO332 := Aside0.mk (Kd.V_elder' (by (with_reducible repeat (first | apply Kd.V_alloc | apply Kd.V_drewN | apply Kd.V_drew)); exact (Kd.V_mono (Kd.V_far (p := ⟨gb333, 1, none⟩) (Kd.V_far (p := ⟨gb333, 0, none⟩) (Kd.V_mono HO332.out (fun k_ hk => (⟨hk, hk.2⟩ : _ ∧ k_ ≠ gb333))) (fun _ hk => hk.2) (.int .u64 t329)) (fun _ hk => hk.2) (.slice Ao282 t330.length co282)) (fun _ h_ => h_.1))) (Kd.S_base ho0) hb); replace BK326 := Aside0.mk (blk_below (g := gb326) (o := .cells #[.int .u64 a0_0, .slice A0_1 l0_1.length c0_1] 25 (0, 0)) (by (with_reducible repeat (first | refine blk_drewN ?_ _ | refine blk_drew ?_ | refine blk_alloc ?_ _)); refine blk_far ?_ NB326_333.out _; (with_reducible repeat (first | refine blk_drewN ?_ _ | refine blk_drew ?_ | refine blk_alloc ?_ _)); refine blk_far ?_ NB326_333.out _; (with_reducible repeat (first | refine blk_drewN ?_ _ | refine blk_drew ?_ | refine blk_alloc ?_ _)); exact BK326.out) hb); replace BK333 := Aside0.mk (blk_below (g := gb333) (o := .cells #[.int .u64 t329, .slice Ao282 t330.length co282] 30 (0, 0)) (by (with_reducible repeat (first | refine blk_drewN ?_ _ | refine blk_drew ?_ | refine blk_alloc ?_ _)); refine blk_put (cs := #[.int .u64 t329, .slice none 0 0]) ?_ 1 _ rfl; (with_reducible repeat (first | refine blk_drewN ?_ _ | refine blk_drew ?_ | refine blk_alloc ?_ _)); refine blk_put (cs := #[.int .u64 0, .slice none 0 0]) ?_ 0 _ rfl; (with_reducible repeat (first | refine blk_drewN ?_ _ | refine blk_drew ?_ | refine blk_alloc ?_ _)); exact BK333.out) hb); replace HB := stB HB hb; (try clear hb); (try clear hb2); (try clear hk); (try clear hi); (try clear ho0)) | ((with_reducible refine gate_dst (N := 8) rfl ?_); (try (refine gate_guard (by rfl) ?_; dsimp only)); refine box_event ?hg (N := 8) ?hd (cs := #[.int .u64 0, .slice none 0 0]) (t := 25) ?hr ?_; (case hd => rfl); (case hg => rfl); (case hr => first | (go_simp; done) | (go_simp; rfl)); intro gb339 hg w285 hbox hb; have BK339 := Aside0.mk (hbox); have GW339 := geN HB hg; have GE339 := geN HB hg; have NB326_339 := neL BK326 hg; have NB339_326 := neG BK326 hg; have NB333_339 := neL BK333 hg; have NB339_333 := neG BK333 hg; replace HO332 := Aside0.mk (Kd.V_below (Kd.V_elderB (pV HO332) gb339 (Nat.le_of_eq hg.symm)) hb); replace HO337 := Aside0.mk (Kd.S_below (pS HO337) hb); replace BK326 := bB BK326 hb; replace BK333 := bB BK333 hb; replace HB := stB HB hb; clear hb hbox hg; have hnb286 := NB339_326.out; have hnc286 := NB326_339.out; have hnb287 := NB339_333.out; have hnc287 := NB333_339.out; have hcz288_0 : w285.cell? ⟨gb339, 0, none⟩ = some (.int .u64 0) := (blk_cell BK339.out 0).trans rfl; have hcz288_1 : w285.cell? ⟨gb339, 1, none⟩ = some (.slice none 0 0) := (blk_cell BK339.out 1).trans rfl; have hfz288_0 := blk_frozen BK339.out 0; have hfz288_1 := blk_frozen BK339.out 1; obtain ⟨Ao289, co289, eo289⟩ := Kd.S_slice HO337.out; subst eo289; have hcz290_0 : w285.cell? ⟨gb326, 0, none⟩ = some (.int .u64 a0_0) := (blk_cell BK326.out 0).trans rfl; have hcz290_1 : w285.cell? ⟨gb326, 1, none⟩ = some (.slice A0_1 l0_1.length c0_1) := (blk_cell BK326.out 1).trans rfl; have hfz290_0 := blk_frozen BK326.out 0; have hfz290_1 := blk_frozen BK326.out 1) | ((with_reducible refine gate_callee (f := 16) rfl ?_); refine goesM_ (some 36) Try.func16 #[.agg #[.int .u64 a0_0, .slice A0_1 l0_1.length c0_1], .string a1] ?_; (with_reducible refine (signed_Get.calls kj3 a0_0 _ _ l0_1 a1 t340 _ ?side1 ?side2 A15.out).mono ?_); (case side1 => exact Kd.C_below HR0_1.out (pH HB)); (case side2 => exact HC0_1.out); rintro e w291 ⟨rfl, hb⟩; refine ⟨_, rfl, ?_⟩; replace HO332 := Aside0.mk (Kd.V_below (by (with_reducible repeat (first | apply Kd.V_alloc | apply Kd.V_drewN | apply Kd.V_drew)); exact (Kd.V_mono (Kd.V_far (p := ⟨gb339, 1, none⟩) (Kd.V_far (p := ⟨gb339, 0, none⟩) (Kd.V_mono HO332.out (fun k_ hk => (⟨hk, hk.2⟩ : _ ∧ k_ ≠ gb339))) (fun _ hk => hk.2) (.int .u64 t334)) (fun _ hk => hk.2) (.slice Ao289 t335.length co289)) (fun _ h_ => h_.1))) hb); replace HO337 := Aside0.mk (Kd.S_below (by (with_reducible repeat (first | apply Kd.S_alloc | apply Kd.S_drewN | apply Kd.S_drew)); exact (Kd.S_mono (Kd.S_far (p := ⟨gb339, 1, none⟩) (Kd.S_far (p := ⟨gb339, 0, none⟩) (Kd.S_types HO337.out BK339.out (by decide)) (fun _ hk => hk.2) (.int .u64 t334)) (fun _ hk => hk.2) (.slice Ao289 t335.length co289)) (fun _ h_ => h_.1))) hb); replace BK326 := Aside0.mk (blk_below (g := gb326) (o := .cells #[.int .u64 a0_0, .slice A0_1 l0_1.length c0_1] 25 (0, 0)) (by (with_reducible repeat (first | refine blk_drewN ?_ _ | refine blk_drew ?_ | refine blk_alloc ?_ _)); refine blk_far ?_ NB326_339.out _; (with_reducible repeat (first | refine blk_drewN ?_ _ | refine blk_drew ?_ | refine blk_alloc ?_ _)); refine blk_far ?_ NB326_339.out _; (with_reducible repeat (first | refine blk_drewN ?_ _ | refine blk_drew ?_ | refine blk_alloc ?_ _)); exact BK326.out) hb); replace BK333 := Aside0.mk (blk_below (g := gb333) (o := .cells #[.int .u64 t329, .slice Ao282 t330.length co282] 30 (0, 0)) (by (with_reducible repeat (first | refine blk_drewN ?_ _ | refine blk_drew ?_ | refine blk_alloc ?_ _)); refine blk_far ?_ NB333_339.out _; (with_reducible repeat (first | refine blk_drewN ?_ _ | refine blk_drew ?_ | refine blk_alloc ?_ _)); refine blk_far ?_ NB333_339.out _; (with_reducible repeat (first | refine blk_drewN ?_ _ | refine blk_drew ?_ | refine blk_alloc ?_ _)); exact BK333.out) hb); replace BK339 := Aside0.mk (blk_below (g := gb339) (o := .cells #[.int .u64 t334, .slice Ao289 t335.length co289] 25 (0, 0)) (by (with_reducible repeat (first | refine blk_drewN ?_ _ | refine blk_drew ?_ | refine blk_alloc ?_ _)); refine blk_put (cs := #[.int .u64 t334, .slice none 0 0]) ?_ 1 _ rfl; (with_reducible repeat (first | refine blk_drewN ?_ _ | refine blk_drew ?_ | refine blk_alloc ?_ _)); refine blk_put (cs := #[.int .u64 0, .slice none 0 0]) ?_ 0 _ rfl; (with_reducible repeat (first | refine blk_drewN ?_ _ | refine blk_drew ?_ | refine blk_alloc ?_ _)); exact BK339.out) hb); replace HB := stB HB hb; (try clear hb); (try clear hb2); (try clear hk); (try clear hi); have hcz292_0 : w291.cell? ⟨gb333, 0, none⟩ = some (.int .u64 t329) := (blk_cell BK333.out 0).trans rfl; have hcz292_1 : w291.cell? ⟨gb333, 1, none⟩ = some (.slice Ao282 t330.length co282) := (blk_cell BK333.out 1).trans rfl; have hfz292_0 := blk_frozen BK333.out 0; have hfz292_1 := blk_frozen BK333.out 1) | ((with_reducible refine gate_callee (f := 13) rfl ?_); refine goesM_ (some 38) Try.func13 #[.agg #[.int .u64 t329, .slice Ao282 t330.length co282]] ?_; (with_reducible refine (rillmeterref12_Right.calls kj3 t329 _ _ t330 false _ ?side1 ?side2 A16.out).mono ?_); (case side1 => repeat (first | exact (Kd.V_reads' HO332.out).2.2 | (with_reducible refine Kd.C_alloc ?_ _) | (with_reducible refine Kd.C_drewN ?_ _) | (with_reducible refine Kd.C_drew ?_))); (case side2 => exact (Kd.V_reads' HO332.out).2.1); rintro e w293 ⟨rfl, hb⟩; refine ⟨_, rfl, ?_⟩; replace HO332 := Aside0.mk (Kd.V_below (pV HO332) hb); replace HO337 := Aside0.mk (Kd.S_below (pS HO337) hb); replace BK326 := bB BK326 hb; replace BK333 := bB BK333 hb; replace BK339 := bB BK339 hb; replace HB := stB HB hb; (try clear hb); (try clear hb2); (try clear hk); (try clear hi); have hcz294_0 : w293.cell? ⟨gb326, 0, none⟩ = some (.int .u64 a0_0) := (blk_cell BK326.out 0).trans rfl; have hcz294_1 : w293.cell? ⟨gb326, 1, none⟩ = some (.slice A0_1 l0_1.length c0_1) := (blk_cell BK326.out 1).trans rfl; have hfz294_0 := blk_frozen BK326.out 0; have hfz294_1 := blk_frozen BK326.out 1) | ((with_reducible refine gate_callee (f := 17) rfl ?_); refine goesM_ (some 41) Try.func17 #[.agg #[.int .u64 a0_0, .slice A0_1 l0_1.length c0_1]] ?_; (with_reducible refine (signed_Right.calls a0_0 _ _ l0_1 false _ ?side1 ?side2 A185.out).mono ?_); (case side1 => repeat (first | exact (Kd.C_below HR0_1.out HB.out) | (with_reducible refine Kd.C_alloc ?_ _) | (with_reducible refine Kd.C_drewN ?_ _) | (with_reducible refine Kd.C_drew ?_))); (case side2 => exact HC0_1.out); rintro e w295 ⟨rfl, hb⟩; refine ⟨_, rfl, ?_⟩; replace HO332 := Aside0.mk (Kd.V_below (pV HO332) hb); replace HO337 := Aside0.mk (Kd.S_below (pS HO337) hb); replace BK326 := bB BK326 hb; replace BK333 := bB BK333 hb; replace BK339 := bB BK339 hb; replace HB := stB HB hb; (try clear hb); (try clear hb2); (try clear hk); (try clear hi); have hcz296_0 : w295.cell? ⟨gb339, 0, none⟩ = some (.int .u64 t334) := (blk_cell BK339.out 0).trans rfl; have hcz296_1 : w295.cell? ⟨gb339, 1, none⟩ = some (.slice Ao289 t335.length co289) := (blk_cell BK339.out 1).trans rfl; have hfz296_0 := blk_frozen BK339.out 0; have hfz296_1 := blk_frozen BK339.out 1))
        go_ret
        exact ⟨by first | rfl | (simp [errW_none, errW_some] <;> rfl) | (simp [*, errW_none, errW_some] <;> rfl), by repeat (first | (with_reducible first | exact HB.out | apply below_alloc | apply pw_below_drewN | apply below_drew1 | refine below_set ?_ GE326.out | refine below_set ?_ GE333.out | refine below_set ?_ GE339.out) | exact HB.out)⟩
      ·
       rw [if_neg c206] at H
       have c206b0 : (t338 == 1) = false := beq_eq_false_iff_ne.mpr c206
       have c206b1 : (t338 != 1) = true := bne_iff_ne.mpr c206
       obtain rfl := Option.some.inj H
       have hcz297_0 : wc.cell? ⟨gb326, 0, none⟩ = some (.int .u64 a0_0) := (blk_cell BK326.out 0).trans rfl
       have hcz297_1 : wc.cell? ⟨gb326, 1, none⟩ = some (.slice A0_1 l0_1.length c0_1) := (blk_cell BK326.out 1).trans rfl
       have hfz297_0 := blk_frozen BK326.out 0
       have hfz297_1 := blk_frozen BK326.out 1
       go_wp2_with (first | ((with_reducible refine gate_callee (f := 11) rfl ?_); refine goesM_ (some 26) Try.func11 #[.agg #[.int .u64 a0_0, .slice A0_1 l0_1.length c0_1]] ?_; (with_reducible refine (rillmeterlaw12_ref.calls a0_0 (fun k_ => k_ < w.heap.size) _ _ l0_1 t329 t330 _ ?side1 A13.out).mono ?_); (case side1 => exact Kd.V_mk HC0_1.out (Kd.F_below (Kd.C_F (Kd.heap_slice 3 (Kd.heap_int .i64)) HR0_1.out) (pH HB))); rintro e w298 ⟨v331, rfl, ho0, hb⟩; refine ⟨_, rfl, ?_⟩; have HO332 := Aside0.mk (Kd.V_lower (Kd.V_mono (ok' := fun k_ => k_ ≠ gb326) ho0 (fun k_ hk_ => Or.elim hk_ (fun hs_ => fun e_ => Nat.not_le.2 hs_ (by rw [e_]; exact GW326.out)) (fun hn_ => (Kd.freshB (g := gb326) (o := .cells #[.int .u64 a0_0, .slice A0_1 l0_1.length c0_1] 25 (0, 0)) (pB BK326) k_ hn_)))) (below_size (pH HB))); replace BK326 := bB BK326 hb; replace HB := stB HB hb; (try clear hb); (try clear hb2); (try clear hk); (try clear hi); (try clear ho0)) | ((with_reducible refine gate_dst (N := 7) rfl ?_); (try (refine gate_guard (by rfl) ?_; dsimp only)); refine box_event ?hg (N := 7) ?hd (cs := #[.int .u64 0, .slice none 0 0]) (t := 30) ?hr ?_; (case hd => rfl); (case hg => rfl); (case hr => first | (go_simp; done) | (go_simp; rfl)); intro gb333 hg w299 hbox hb; have BK333 := Aside0.mk (hbox); have GW333 := geN HB hg; have GE333 := geN HB hg; have NB326_333 := neL BK326 hg; have NB333_326 := neG BK326 hg; replace HO332 := Aside0.mk (Kd.V_below (Kd.V_elderB (pV HO332) gb333 (Nat.le_of_eq hg.symm)) hb); replace BK326 := bB BK326 hb; replace HB := stB HB hb; clear hb hbox hg; have hnb300 := NB333_326.out; have hnc300 := NB326_333.out; have hcz301_0 : w299.cell? ⟨gb333, 0, none⟩ = some (.int .u64 0) := (blk_cell BK333.out 0).trans rfl; have hcz301_1 : w299.cell? ⟨gb333, 1, none⟩ = some (.slice none 0 0) := (blk_cell BK333.out 1).trans rfl; have hfz301_0 := blk_frozen BK333.out 0; have hfz301_1 := blk_frozen BK333.out 1; obtain ⟨Ao302, co302, eo302⟩ := Kd.V_slice HO332.out; subst eo302; have hcz303_0 : w299.cell? ⟨gb326, 0, none⟩ = some (.int .u64 a0_0) := (blk_cell BK326.out 0).trans rfl; have hcz303_1 : w299.cell? ⟨gb326, 1, none⟩ = some (.slice A0_1 l0_1.length c0_1) := (blk_cell BK326.out 1).trans rfl; have hfz303_0 := blk_frozen BK326.out 0; have hfz303_1 := blk_frozen BK326.out 1) | ((with_reducible refine gate_callee (f := 15) rfl ?_); refine goesM_ (some 31) Try.func15 #[.agg #[.int .u64 a0_0, .slice A0_1 l0_1.length c0_1], .string a1, .int .i64 a2] ?_; (with_reducible refine (signed_Add.calls a0_0 _ _ l0_1 a1 a2 t334 t335 t338 _ ?side1 ?side2 A14.out).mono ?_); (case side1 => exact Kd.C_below HR0_1.out (pH HB)); (case side2 => exact HC0_1.out); rintro e w304 ⟨v336, rfl, ho0, hb⟩; refine ⟨_, rfl, ?_⟩; have HO337 := Aside0.mk (Kd.S_lower ho0 (below_size (pH HB))); replace HO332 := Aside0.mk (Kd.V_elder' (by (with_reducible repeat (first | apply Kd.V_alloc | apply Kd.V_drewN | apply Kd.V_drew)); exact (Kd.V_mono (Kd.V_far (p := ⟨gb333, 1, none⟩) (Kd.V_far (p := ⟨gb333, 0, none⟩) (Kd.V_mono HO332.out (fun k_ hk => (⟨hk, hk.2⟩ : _ ∧ k_ ≠ gb333))) (fun _ hk => hk.2) (.int .u64 t329)) (fun _ hk => hk.2) (.slice Ao302 t330.length co302)) (fun _ h_ => h_.1))) (Kd.S_base ho0) hb); replace BK326 := Aside0.mk (blk_below (g := gb326) (o := .cells #[.int .u64 a0_0, .slice A0_1 l0_1.length c0_1] 25 (0, 0)) (by (with_reducible repeat (first | refine blk_drewN ?_ _ | refine blk_drew ?_ | refine blk_alloc ?_ _)); refine blk_far ?_ NB326_333.out _; (with_reducible repeat (first | refine blk_drewN ?_ _ | refine blk_drew ?_ | refine blk_alloc ?_ _)); refine blk_far ?_ NB326_333.out _; (with_reducible repeat (first | refine blk_drewN ?_ _ | refine blk_drew ?_ | refine blk_alloc ?_ _)); exact BK326.out) hb); replace BK333 := Aside0.mk (blk_below (g := gb333) (o := .cells #[.int .u64 t329, .slice Ao302 t330.length co302] 30 (0, 0)) (by (with_reducible repeat (first | refine blk_drewN ?_ _ | refine blk_drew ?_ | refine blk_alloc ?_ _)); refine blk_put (cs := #[.int .u64 t329, .slice none 0 0]) ?_ 1 _ rfl; (with_reducible repeat (first | refine blk_drewN ?_ _ | refine blk_drew ?_ | refine blk_alloc ?_ _)); refine blk_put (cs := #[.int .u64 0, .slice none 0 0]) ?_ 0 _ rfl; (with_reducible repeat (first | refine blk_drewN ?_ _ | refine blk_drew ?_ | refine blk_alloc ?_ _)); exact BK333.out) hb); replace HB := stB HB hb; (try clear hb); (try clear hb2); (try clear hk); (try clear hi); (try clear ho0)) | ((with_reducible refine gate_dst (N := 8) rfl ?_); (try (refine gate_guard (by rfl) ?_; dsimp only)); refine box_event ?hg (N := 8) ?hd (cs := #[.int .u64 0, .slice none 0 0]) (t := 25) ?hr ?_; (case hd => rfl); (case hg => rfl); (case hr => first | (go_simp; done) | (go_simp; rfl)); intro gb339 hg w305 hbox hb; have BK339 := Aside0.mk (hbox); have GW339 := geN HB hg; have GE339 := geN HB hg; have NB326_339 := neL BK326 hg; have NB339_326 := neG BK326 hg; have NB333_339 := neL BK333 hg; have NB339_333 := neG BK333 hg; replace HO332 := Aside0.mk (Kd.V_below (Kd.V_elderB (pV HO332) gb339 (Nat.le_of_eq hg.symm)) hb); replace HO337 := Aside0.mk (Kd.S_below (pS HO337) hb); replace BK326 := bB BK326 hb; replace BK333 := bB BK333 hb; replace HB := stB HB hb; clear hb hbox hg; have hnb306 := NB339_326.out; have hnc306 := NB326_339.out; have hnb307 := NB339_333.out; have hnc307 := NB333_339.out; have hcz308_0 : w305.cell? ⟨gb339, 0, none⟩ = some (.int .u64 0) := (blk_cell BK339.out 0).trans rfl; have hcz308_1 : w305.cell? ⟨gb339, 1, none⟩ = some (.slice none 0 0) := (blk_cell BK339.out 1).trans rfl; have hfz308_0 := blk_frozen BK339.out 0; have hfz308_1 := blk_frozen BK339.out 1; obtain ⟨Ao309, co309, eo309⟩ := Kd.S_slice HO337.out; subst eo309; have hcz310_0 : w305.cell? ⟨gb326, 0, none⟩ = some (.int .u64 a0_0) := (blk_cell BK326.out 0).trans rfl; have hcz310_1 : w305.cell? ⟨gb326, 1, none⟩ = some (.slice A0_1 l0_1.length c0_1) := (blk_cell BK326.out 1).trans rfl; have hfz310_0 := blk_frozen BK326.out 0; have hfz310_1 := blk_frozen BK326.out 1) | ((with_reducible refine gate_callee (f := 16) rfl ?_); refine goesM_ (some 36) Try.func16 #[.agg #[.int .u64 a0_0, .slice A0_1 l0_1.length c0_1], .string a1] ?_; (with_reducible refine (signed_Get.calls kj3 a0_0 _ _ l0_1 a1 t340 _ ?side1 ?side2 A15.out).mono ?_); (case side1 => exact Kd.C_below HR0_1.out (pH HB)); (case side2 => exact HC0_1.out); rintro e w311 ⟨rfl, hb⟩; refine ⟨_, rfl, ?_⟩; replace HO332 := Aside0.mk (Kd.V_below (by (with_reducible repeat (first | apply Kd.V_alloc | apply Kd.V_drewN | apply Kd.V_drew)); exact (Kd.V_mono (Kd.V_far (p := ⟨gb339, 1, none⟩) (Kd.V_far (p := ⟨gb339, 0, none⟩) (Kd.V_mono HO332.out (fun k_ hk => (⟨hk, hk.2⟩ : _ ∧ k_ ≠ gb339))) (fun _ hk => hk.2) (.int .u64 t334)) (fun _ hk => hk.2) (.slice Ao309 t335.length co309)) (fun _ h_ => h_.1))) hb); replace HO337 := Aside0.mk (Kd.S_below (by (with_reducible repeat (first | apply Kd.S_alloc | apply Kd.S_drewN | apply Kd.S_drew)); exact (Kd.S_mono (Kd.S_far (p := ⟨gb339, 1, none⟩) (Kd.S_far (p := ⟨gb339, 0, none⟩) (Kd.S_types HO337.out BK339.out (by decide)) (fun _ hk => hk.2) (.int .u64 t334)) (fun _ hk => hk.2) (.slice Ao309 t335.length co309)) (fun _ h_ => h_.1))) hb); replace BK326 := Aside0.mk (blk_below (g := gb326) (o := .cells #[.int .u64 a0_0, .slice A0_1 l0_1.length c0_1] 25 (0, 0)) (by (with_reducible repeat (first | refine blk_drewN ?_ _ | refine blk_drew ?_ | refine blk_alloc ?_ _)); refine blk_far ?_ NB326_339.out _; (with_reducible repeat (first | refine blk_drewN ?_ _ | refine blk_drew ?_ | refine blk_alloc ?_ _)); refine blk_far ?_ NB326_339.out _; (with_reducible repeat (first | refine blk_drewN ?_ _ | refine blk_drew ?_ | refine blk_alloc ?_ _)); exact BK326.out) hb); replace BK333 := Aside0.mk (blk_below (g := gb333) (o := .cells #[.int .u64 t329, .slice Ao302 t330.length co302] 30 (0, 0)) (by (with_reducible repeat (first | refine blk_drewN ?_ _ | refine blk_drew ?_ | refine blk_alloc ?_ _)); refine blk_far ?_ NB333_339.out _; (with_reducible repeat (first | refine blk_drewN ?_ _ | refine blk_drew ?_ | refine blk_alloc ?_ _)); refine blk_far ?_ NB333_339.out _; (with_reducible repeat (first | refine blk_drewN ?_ _ | refine blk_drew ?_ | refine blk_alloc ?_ _)); exact BK333.out) hb); replace BK339 := Aside0.mk (blk_below (g := gb339) (o := .cells #[.int .u64 t334, .slice Ao309 t335.length co309] 25 (0, 0)) (by (with_reducible repeat (first | refine blk_drewN ?_ _ | refine blk_drew ?_ | refine blk_alloc ?_ _)); refine blk_put (cs := #[.int .u64 t334, .slice none 0 0]) ?_ 1 _ rfl; (with_reducible repeat (first | refine blk_drewN ?_ _ | refine blk_drew ?_ | refine blk_alloc ?_ _)); refine blk_put (cs := #[.int .u64 0, .slice none 0 0]) ?_ 0 _ rfl; (with_reducible repeat (first | refine blk_drewN ?_ _ | refine blk_drew ?_ | refine blk_alloc ?_ _)); exact BK339.out) hb); replace HB := stB HB hb; (try clear hb); (try clear hb2); (try clear hk); (try clear hi); have hcz312_0 : w311.cell? ⟨gb333, 0, none⟩ = some (.int .u64 t329) := (blk_cell BK333.out 0).trans rfl; have hcz312_1 : w311.cell? ⟨gb333, 1, none⟩ = some (.slice Ao302 t330.length co302) := (blk_cell BK333.out 1).trans rfl; have hfz312_0 := blk_frozen BK333.out 0; have hfz312_1 := blk_frozen BK333.out 1) | ((with_reducible refine gate_callee (f := 13) rfl ?_); refine goesM_ (some 38) Try.func13 #[.agg #[.int .u64 t329, .slice Ao302 t330.length co302]] ?_; (with_reducible refine (rillmeterref12_Right.calls kj3 t329 _ _ t330 false _ ?side1 ?side2 A16.out).mono ?_); (case side1 => repeat (first | exact (Kd.V_reads' HO332.out).2.2 | (with_reducible refine Kd.C_alloc ?_ _) | (with_reducible refine Kd.C_drewN ?_ _) | (with_reducible refine Kd.C_drew ?_))); (case side2 => exact (Kd.V_reads' HO332.out).2.1); rintro e w313 ⟨rfl, hb⟩; refine ⟨_, rfl, ?_⟩; replace HO332 := Aside0.mk (Kd.V_below (pV HO332) hb); replace HO337 := Aside0.mk (Kd.S_below (pS HO337) hb); replace BK326 := bB BK326 hb; replace BK333 := bB BK333 hb; replace BK339 := bB BK339 hb; replace HB := stB HB hb; (try clear hb); (try clear hb2); (try clear hk); (try clear hi); have hcz314_0 : w313.cell? ⟨gb326, 0, none⟩ = some (.int .u64 a0_0) := (blk_cell BK326.out 0).trans rfl; have hcz314_1 : w313.cell? ⟨gb326, 1, none⟩ = some (.slice A0_1 l0_1.length c0_1) := (blk_cell BK326.out 1).trans rfl; have hfz314_0 := blk_frozen BK326.out 0; have hfz314_1 := blk_frozen BK326.out 1) | ((with_reducible refine gate_callee (f := 17) rfl ?_); refine goesM_ (some 41) Try.func17 #[.agg #[.int .u64 a0_0, .slice A0_1 l0_1.length c0_1]] ?_; (with_reducible refine (signed_Right.calls a0_0 _ _ l0_1 false _ ?side1 ?side2 A185.out).mono ?_); (case side1 => repeat (first | exact (Kd.C_below HR0_1.out HB.out) | (with_reducible refine Kd.C_alloc ?_ _) | (with_reducible refine Kd.C_drewN ?_ _) | (with_reducible refine Kd.C_drew ?_))); (case side2 => exact HC0_1.out); rintro e w315 ⟨rfl, hb⟩; refine ⟨_, rfl, ?_⟩; replace HO332 := Aside0.mk (Kd.V_below (pV HO332) hb); replace HO337 := Aside0.mk (Kd.S_below (pS HO337) hb); replace BK326 := bB BK326 hb; replace BK333 := bB BK333 hb; replace BK339 := bB BK339 hb; replace HB := stB HB hb; (try clear hb); (try clear hb2); (try clear hk); (try clear hi)))
       go_ret
       exact ⟨by first | rfl | (simp [errW_none, errW_some] <;> rfl) | (simp [*, errW_none, errW_some] <;> rfl), by repeat (first | (with_reducible first | exact HB.out | apply below_alloc | apply pw_below_drewN | apply below_drew1 | refine below_set ?_ GE326.out | refine below_set ?_ GE333.out | refine below_set ?_ GE339.out) | exact HB.out)⟩

end Go.Proofs.Yteaeigpeaneicaa.G
end

section
-- Printed by gprint.py: a program of this session over the kit's print. Not trusted: Lean checks it.
namespace Go.Proofs.Yteaeigpeaneicaa.G
open Go Go.RowKit Go.ChangeShapes Go.WideShapes Go.ChangeAt Go.Proofs.YteaeigpeaneicaaW.PrintWords Go.Proofs.YteaeigpeaneicaaOpen Go.Proofs.Yteaeigpeaneicaa
open Go.ChangeMaps (open_string shut_string)
def good25 (x : S25) : Prop := (fun n_ => (Lit.int .u64 n_).wf = true) x.f0 ∧ (fun xs_ => (∀ x_ ∈ xs_, (fun xs_ => (∀ x_ ∈ xs_, (fun n_ => (Lit.int .i64 n_).wf = true) x_) ∧ xs_.length * 8 ≤ 140737488351232) x_) ∧ xs_.length * 24 ≤ 140737488351232) x.f1
theorem opens25 : Opens Try.prog 25 k25 good25 := opens_iso (g := fun p => ⟨p.1, p.2⟩) (fun _ => rfl) (opens_struct Try.underlying25 (by kernel_rfl) (at_cons rfl (by kernel_rfl) (opens_int Try.underlying22) (at_one rfl (by kernel_rfl) (opens_slice Try.underlying23 (by kernel_rfl) (by kernel_rfl) (opens_slice Try.underlying33 (by kernel_rfl) (by kernel_rfl) (opens_int Try.underlying3))))))
/-- WHAT IS LEFT TO PROVE: of numbers and lists alone. -/
def PureSignedTurns : Prop := ∀ (x0 : S25) (x1 : ByteArray) (x2 : Int), good25 x0 → (fun s_ => s_.size ≤ 140737488351232) x1 → (fun n_ => (Lit.int .i64 n_).wf = true) x2 → ∃ k, rillmeterlaw12_SignedTurns.f k x0.f0 x0.f1 x1 x2 = some true
theorem ownSignedTurns : ownKnob Try.prog.godebug = none := by kernel_rfl
theorem laidOutSignedTurns : laidOutB Try.prog = true := by kernel_rfl
set_option maxRecDepth 100000 in
set_option maxHeartbeats 2000000 in
theorem liftedSignedTurns (HP : PureSignedTurns) (os : Os) (started : os.Started) (H : Type) (enc : TypeId × Value → H) :
    ReturnsInHanded {} Try.checked os 5 .any (Rows.signedTurnsSpec.pre6 enc Try.prog Try.f5 Rows.signedTurnsRow.domain false) (Rows.signedTurnsSpec.post enc Try.prog Try.f5 false true false false) := by
  refine returnsInHanded_of_change_sized (C := Try.checked) ownSignedTurns started (by kernel_rfl) Try.func5
    (ChangeSpec.witness6 (enc := enc) (C := Try.checked) false ⟨#[], #[.agg #[.int .u64 0, .slice none 0 0], .string ByteArray.empty, .int .i64 0], []⟩ 8 (by kernel_rfl) (by kernel_rfl) (by kernel_rfl) (by kernel_rfl)) ?_
  intro W base args ds gs before hval0 hW hcnd hsz0 _
  have hsz : (DataW.weightsEach Try.prog (Try.f5.params.toList ++ Rows.signedTurnsSpec.plain.varTypes Try.prog) (ds ++ gs)).all (· ≤ reachBytes) = true := hsz0
  have hval : ∀ (j : Nat) t v, Try.f5.params[j]? = some t → args[j]? = some v → Value.okWide Try.prog W .any base t v := hval0
  have hW' := hW
  obtain ⟨p, q, hA0, hV, rfl, hfz, hnd⟩ := hW
  have hA : DataW.TrodAll enc Try.prog W 0 (fun _ => true) true Try.f5.params.toList args.toList ds p := hA0
  rw [Try.params5] at hA hval hsz
  obtain ⟨v0, vs0, d0, ds0, p0, q0, hargs, rfl, rfl, h0, r0⟩ := trodAll_cons hA
  obtain ⟨v1, vs1, d1, ds1, p1, q1, rfl, rfl, rfl, h1, r1⟩ := trodAll_cons r0
  obtain ⟨v2, vs2, d2, ds2, p2, q2, rfl, rfl, rfl, h2, r2⟩ := trodAll_cons r1
  obtain ⟨rfl, rfl, rfl⟩ := trodAll_nil r2
  obtain rfl : args = #[v0, v1, v2] := by cases args; simp_all
  obtain ⟨rfl, rfl⟩ := trodVars_none hV
  have k0 := h0
  have lt0 : ∀ x ∈ p0, x.block < W.heap.size := by obtain ⟨m, hm⟩ := k0; exact DataW.trod_lt m _ _ _ hm
  obtain ⟨x0, hK0, g0⟩ := opens_arg opens25 hsz (j := 0) (T := 25) rfl rfl h0
  obtain ⟨cs0, rfl, _⟩ := okWide_struct Try.underlying25 (hval 0 25 v0 rfl rfl)
  obtain ⟨A0_1, c0_1, e0, hc0_1, hr0_1⟩ := k25_open hK0
  obtain rfl : cs0 = #[.int .u64 x0.f0, .slice A0_1 x0.f1.length c0_1] := by
    have e2 : (Value.agg cs0).cells = cs0 := rfl
    rw [e2] at e0
    apply Array.ext'
    rw [e0]
  obtain ⟨x1, rfl, rfl, rfl, y1⟩ := open_string Try.underlying9 (hval 1 9 v1 rfl rfl) h1
  have g1 : x1.size ≤ 140737488351232 := by
    have z := sized_string hsz (j := 1) (t := 9) rfl rfl
    rw [Array.length_toList] at z
    exact z
  obtain ⟨x2, rfl, rfl, rfl, g2⟩ := open_int Try.underlying3 (hval 2 3 v2 rfl rfl) h2
  obtain ⟨k, hk⟩ := HP x0 x1 x2 g0 g1 g2
  clear hA0 hval0 hsz0 hsz
  refine (rillmeterlaw12_SignedTurns.calls k x0.f0 A0_1 c0_1 x0.f1 x1 x2 true W hr0_1 hc0_1 hk).mono fun e W' ⟨he, bel0⟩ => ?_
  have bel : Below W.heap.size W W' := bel0
  subst he
  exact ⟨_, rfl, _, _, _, [], _, [], hW', trodAll_mk1 (shut_bool Try.underlying4 _), (trodAll_cons_mk (Below.trod laidOutSignedTurns (by kernel_rfl) (of_decide_eq_true (by kernel_rfl)) k0 bel lt0) (trodAll_cons_mk (shut_string Try.underlying9 y1) (trodAll_cons_mk (shut_int Try.underlying3 g2) trodAll_mk0))), rfl, bel.frame _, fun h => by cases h⟩
theorem rowSignedTurns (HP : PureSignedTurns) : Rows.signedTurnsRow.holds Try.pinned (OpenSpec.ofChange Rows.signedTurnsSpec) :=
  OpenClaim.holds_of_wide 5 Try.f5 rfl rfl rfl rfl rfl rfl rfl ⟨rfl, rfl, rfl, rfl, rfl⟩ rfl rfl rfl rfl rfl (by kernel_rfl) Try.func5 (by kernel_rfl)
    (of_decide_eq_true (by kernel_rfl)) (by unfold Func.isWrapper; first | (rw [if_pos (by decide +kernel)]; kernel_rfl) | (rw [if_neg (by decide +kernel)]; exact ⟨rfl, rfl⟩))
    (fun os started H enc _ => liftedSignedTurns HP os started H enc)
theorem saidSignedTurns (HP : PureSignedTurns) : Rows.SignedTurnsSaid := rowSignedTurns HP
end Go.Proofs.Yteaeigpeaneicaa.G
end

section
/- SignedTurns, of numbers and lists alone. -/
namespace Go.Proofs.Yteaeigpeaneicaa.G
open Go Go.RowKit Go.Proofs.YteaeigpeaneicaaW.PrintWords Go.Proofs.YteaeigpeaneicaaPlain
theorem awake_bind : Ev (fun k => (rillmeterlaw12_awake.f k).bind fun t => (some t)) true := Ev.bind (f := fun _ t => some t) awake_ev (Ev.now _)
theorem signed_Cell_ok {rows : List (List Int)} (h : OkRows rows) (seed : Int) (key : ByteArray) (i : Int) (h0 : 0 ≤ seed) (h1 : seed < 18446744073709551616) (hs : key.size ≤ 140737488351232) :
    Ev (fun k => signed_Cell.f k seed rows key i) (if i < 0 then 0 else if i ≥ (rows.length : Int) then 0 else scell seed key i ((rd_L1 rows i).length : Int)) := by
  have hnum := h.num
  by_cases c1 : i < 0
  · rw [if_pos c1]
    refine Ev.congr (fun k => ?_) (Ev.now 0)
    unfold signed_Cell.f signed_Right.f
    rw [Option.bind_some, if_pos ((ok_iff rows).2 h), if_pos c1]
  · rw [if_neg c1]
    by_cases c2 : i ≥ (rows.length : Int)
    · rw [if_pos c2]
      refine Ev.congr (fun k => ?_) (Ev.now 0)
      unfold signed_Cell.f signed_Right.f
      rw [Option.bind_some, if_pos ((ok_iff rows).2 h), if_neg c1, if_pos c2]
    · rw [if_neg c2]
      obtain ⟨n, rfl⟩ := Int.eq_ofNat_of_zero_le (show 0 ≤ i by omega)
      have hn : n < rows.length := by omega
      have hlen := h.len _ (List.getElem_mem hn)
      have hp := signed_place_ev seed rows key (n : Int) h0 h1 hs (by omega) (by omega) (by omega) (by rw [rdL1_get rows n hn]; omega)
      refine Ev.congr (f := fun k => (signed_place.f k seed rows key (n : Int)).bind fun bt252 => (some bt252.1)) (fun k => ?_) (Ev.bind (f := fun _ bt252 => (some bt252.1)) hp (Ev.now _))
      unfold signed_Cell.f signed_Right.f
      rw [Option.bind_some, if_pos ((ok_iff rows).2 h), if_neg c1, if_neg c2]
theorem signed_Cell_none {rows : List (List Int)} (h : ¬ OkRows rows) (seed : Int) (key : ByteArray) (i : Int) : Ev (fun k => signed_Cell.f k seed rows key i) 0 := by
  refine Ev.congr (fun k => ?_) (Ev.now 0)
  unfold signed_Cell.f signed_Right.f
  rw [Option.bind_some, if_neg (fun e => h ((ok_iff rows).1 e))]
theorem turns_awake0 (key : ByteArray) (n s0 : Int) (r0 : List (List Int)) : Ev (fun k => rillmeterlaw12_SignedTurns.j0 k key n true s0 r0) true := by
  refine Ev.step (fun k => ?_) awake_bind
  simp only [rillmeterlaw12_SignedTurns.j0]
  rw [if_pos trivial]
theorem turns_j3 {rows : List (List Int)} (h : OkRows rows) (seed : Int) (key : ByteArray) (n : Int) (h0 : 0 ≤ seed) (h1 : seed < 18446744073709551616) (hs : key.size ≤ 1000000) (r : Int × (List (List Int)) × Int) (hr : signed_Add.f seed rows key n = some r) :
    Ev (fun k => rillmeterlaw12_SignedTurns.j3 k key n r.2.2 false seed rows r.1 r.2.1) true := by
  have hs' : key.size ≤ 140737488351232 := by omega
  refine Ev.step (f := fun k => (if signed_Right.fits n = true then ((rillmeterref12_Add.f k seed rows key n).bind fun bt353 => (if bt353.2.2 = true then (if r.2.2 = 0 then ((rillmeterlaw12_ref.f r.1 r.2.1).bind fun bt359 => ((rillmeterref12_Equal.f k bt359.1 bt359.2 bt353.1 bt353.2.1).bind fun t363 => (if t363 = true then ((rillmeterlaw12_awake.f k).bind fun t364 => (some t364)) else (some false)))) else (some false)) else (if r.2.2 = 5 then (if (r.2.1.length : Int) = 0 then ((rillmeterlaw12_awake.f k).bind fun t365 => (some t365)) else (some false)) else (some false)))) else (if r.2.2 = 1 then (if (r.2.1.length : Int) = 0 then ((rillmeterlaw12_awake.f k).bind fun t352 => (some t352)) else (some false)) else (some false)))) (fun k => ?_) ?_
  · simp only [rillmeterlaw12_SignedTurns.j3]
    rw [if_neg (by simp), ref12_Fits_f, Option.bind_some]
  · by_cases c : -1099511627776 ≤ n ∧ n ≤ 1099511627776
    · simp only [if_pos ((fits_iff n).2 c)]
      obtain ⟨b, hb, hev⟩ := ref12_Add_ev h seed key n h0 hs c
      refine Ev.bind (f := fun k bt353 => (if bt353.2.2 = true then (if r.2.2 = 0 then ((rillmeterlaw12_ref.f r.1 r.2.1).bind fun bt359 => ((rillmeterref12_Equal.f k bt359.1 bt359.2 bt353.1 bt353.2.1).bind fun t363 => (if t363 = true then ((rillmeterlaw12_awake.f k).bind fun t364 => (some t364)) else (some false)))) else (some false)) else (if r.2.2 = 5 then (if (r.2.1.length : Int) = 0 then ((rillmeterlaw12_awake.f k).bind fun t365 => (some t365)) else (some false)) else (some false)))) hev ?_
      by_cases hf : addFits seed key n rows
      · rw [add_ok h seed key n h0 h1 hs' c hf] at hr
        obtain rfl := Option.some.inj hr
        have hok2 := addRows_ok h seed key n hf
        have hEq := ref12_Equal_ev seed (addRows seed key n rows) seed (addRows seed key n rows) (by have := hok2.num; omega) (fun x hx => by have := hok2.len x hx; omega)
        rw [decide_eq_true ⟨rfl, rfl⟩] at hEq
        simp only [if_pos (hb.2 hf), if_pos trivial]
        unfold rillmeterlaw12_ref.f
        simp only [Option.bind_some]
        refine Ev.bind (f := fun k t363 => (if t363 = true then ((rillmeterlaw12_awake.f k).bind fun t364 => (some t364)) else (some false))) hEq ?_
        simp only [if_pos trivial]
        exact awake_bind
      · rw [add_full h seed key n h0 h1 hs' c hf] at hr
        obtain rfl := Option.some.inj hr
        simp only [if_neg (fun e => hf (hb.1 e)), if_pos trivial]
        rw [show ((([] : List (List Int)).length : Nat) : Int) = 0 from rfl]
        simp only [if_pos trivial]
        exact awake_bind
    · simp only [if_neg (fun e => c ((fits_iff n).1 e))]
      rw [add_arg seed key n h0 h1 hs' (Or.inr c)] at hr
      obtain rfl := Option.some.inj hr
      simp only [if_pos trivial]
      rw [show ((([] : List (List Int)).length : Nat) : Int) = 0 from rfl]
      simp only [if_pos trivial]
      exact awake_bind
theorem turns_l0 {rows : List (List Int)} (h : OkRows rows) (seed : Int) (key : ByteArray) (n : Int) (h0 : 0 ≤ seed) (h1 : seed < 18446744073709551616) (hs : key.size ≤ 1000000) (r : Int × (List (List Int)) × Int) (hr : signed_Add.f seed rows key n = some r) (d : Nat) : ∀ i : Int, i + d = 9 → -1 ≤ i →
    Ev (fun k => rillmeterlaw12_SignedTurns.l0 k key n r.2.2 (med (getL seed key rows)) i seed rows seed rows r.1 r.2.1) true := by
  have hs' : key.size ≤ 140737488351232 := by omega
  induction d with
  | zero =>
    intro i hi _
    refine Ev.step (f := fun k => ((rillmeterref12_Get.f k seed rows key).bind fun t349 => (if med (getL seed key rows) = t349 then ((signed_Right.f seed rows).bind fun t350 => (rillmeterlaw12_SignedTurns.j3 k key n r.2.2 (!t350) seed rows r.1 r.2.1)) else (rillmeterlaw12_SignedTurns.j3 k key n r.2.2 true seed rows r.1 r.2.1)))) (fun k => ?_) (Ev.bind (f := fun k t349 => (if med (getL seed key rows) = t349 then ((signed_Right.f seed rows).bind fun t350 => (rillmeterlaw12_SignedTurns.j3 k key n r.2.2 (!t350) seed rows r.1 r.2.1)) else (rillmeterlaw12_SignedTurns.j3 k key n r.2.2 true seed rows r.1 r.2.1))) (ref12_Get_ev h seed key h0 hs) ?_)
    · simp only [rillmeterlaw12_SignedTurns.l0]
      rw [if_neg (by omega)]
    · unfold signed_Right.f
      rw [(ok_iff rows).2 h]
      simp only [if_pos trivial, Option.bind_some, Bool.not_true]
      exact turns_j3 h seed key n h0 h1 hs r hr
  | succ d ih =>
    intro i hi hi1
    have hnx := ih (i + 1) (by omega) (by omega)
    have hcell := signed_Cell_ok h seed key i h0 h1 hs'
    have hj2 : ∀ b : Bool, (b = true ↔ 0 ≤ i ∧ i < (rows.length : Int)) → Ev (fun k => rillmeterlaw12_SignedTurns.j2 k key n r.2.2 (med (getL seed key rows)) i 0 b seed rows seed rows r.1 r.2.1) true := by
      intro b hb
      cases b with
      | true =>
        have hr2 := hb.1 rfl
        rw [if_neg (by omega), if_neg (by omega)] at hcell
        obtain ⟨m, rfl⟩ := Int.eq_ofNat_of_zero_le hr2.1
        have hlen := h.len _ (List.getElem_mem (show m < rows.length by omega))
        have href := ref12_Cell_ev seed key (m : Int) ((rd_L1 rows (m : Int)).length : Int) h0 hs (by omega) (by omega) (by rw [rdL1_get rows m (by omega)]; omega)
        refine Ev.step (f := fun k => ((rillmeterref12_Cell.f k seed key (m : Int) ((rd_L1 rows (m : Int)).length : Int)).bind fun t346 => ((signed_Cell.f k seed rows key (m : Int)).bind fun t347 => (if t347 = t346 then (rillmeterlaw12_SignedTurns.l0 k key n r.2.2 (med (getL seed key rows)) ((m : Int) + 1) seed rows seed rows r.1 r.2.1) else (some false))))) (fun k => ?_) (Ev.bind (f := fun k t346 => ((signed_Cell.f k seed rows key (m : Int)).bind fun t347 => (if t347 = t346 then (rillmeterlaw12_SignedTurns.l0 k key n r.2.2 (med (getL seed key rows)) ((m : Int) + 1) seed rows seed rows r.1 r.2.1) else (some false)))) href (Ev.bind (f := fun k t347 => (if t347 = _ then (rillmeterlaw12_SignedTurns.l0 k key n r.2.2 (med (getL seed key rows)) ((m : Int) + 1) seed rows seed rows r.1 r.2.1) else (some false))) hcell ?_))
        · simp only [rillmeterlaw12_SignedTurns.j2]
          rw [if_pos trivial, if_pos hr2.1, if_pos hr2.2, w64_id (x := (m : Int) + 1) (by omega) (by omega)]
        · simp only [if_pos trivial]
          exact hnx
      | false =>
        have hr2 : ¬ (0 ≤ i ∧ i < (rows.length : Int)) := fun e => by have := hb.2 e; cases this
        have e0 : (if i < 0 then (0 : Int) else if i ≥ (rows.length : Int) then 0 else scell seed key i ((rd_L1 rows i).length : Int)) = 0 := by
          by_cases c : i < 0
          · rw [if_pos c]
          · rw [if_neg c, if_pos (by omega)]
        rw [e0] at hcell
        refine Ev.step (f := fun k => ((signed_Cell.f k seed rows key i).bind fun t348 => (if t348 = 0 then (rillmeterlaw12_SignedTurns.l0 k key n r.2.2 (med (getL seed key rows)) (i + 1) seed rows seed rows r.1 r.2.1) else (some false)))) (fun k => ?_) (Ev.bind (f := fun k t348 => (if t348 = 0 then (rillmeterlaw12_SignedTurns.l0 k key n r.2.2 (med (getL seed key rows)) (i + 1) seed rows seed rows r.1 r.2.1) else (some false))) hcell ?_)
        · simp only [rillmeterlaw12_SignedTurns.j2]
          rw [if_neg (by simp), w64_id (x := i + 1) (by omega) (by omega)]
        · simp only [if_pos trivial]
          exact hnx
    by_cases c : i ≥ 0
    · refine Ev.step (fun k => ?_) (hj2 (decide (i < (rows.length : Int))) ?_)
      · simp only [rillmeterlaw12_SignedTurns.l0]
        rw [if_pos (by omega), if_pos c]
      · rw [decide_eq_true_iff]; omega
    · refine Ev.step (fun k => ?_) (hj2 false ?_)
      · simp only [rillmeterlaw12_SignedTurns.l0]
        rw [if_pos (by omega), if_neg c]
      · constructor
        · intro e; cases e
        · intro e; omega
theorem pureSignedTurns : PureSignedTurns := by
  intro x0 key n g0 g1 g2
  have hw := wf_u64 g0.1
  have h0 := hw.1
  have h1 := hw.2
  have hl : x0.f1.length ≤ 140737488351232 := by have := g0.2.2; omega
  have hrl : ∀ x ∈ x0.f1, x.length ≤ 140737488351232 := fun x hx => by have := (g0.2.1 x hx).2; omega
  refine Ev.rounds (g := fun k => rillmeterlaw12_SignedTurns.f k x0.f0 x0.f1 key n) ?_
  have hsm := ref11_Small_ev x0.f1 hl
  refine Ev.bind (f := fun k t218 => (if t218 = true then (rillmeterlaw12_SignedTurns.j0 k key n (decide ((key.size : Int) > 100)) x0.f0 x0.f1) else (rillmeterlaw12_SignedTurns.j0 k key n true x0.f0 x0.f1))) hsm ?_
  cases hc : smallB x0.f1 with
  | false =>
    simp only [Bool.false_eq_true, if_false]
    exact turns_awake0 _ _ _ _
  | true =>
    simp only [if_true]
    by_cases c : (key.size : Int) > 100
    · rw [decide_eq_true c]; exact turns_awake0 _ _ _ _
    · rw [decide_eq_false c]
      have hs : key.size ≤ 1000000 := by omega
      have hright := ref12_Right_ev x0.f0 x0.f1 hrl
      obtain ⟨r, hr, _⟩ := add_total x0.f0 x0.f1 key n h0 h1 (by omega)
      refine Ev.step (f := fun k => ((signed_Get.f k x0.f0 x0.f1 key).bind fun t340 => ((rillmeterref12_Right.f k x0.f0 x0.f1).bind fun t341 => (if t341 = true then (rillmeterlaw12_SignedTurns.l0 k key n r.2.2 t340 (-1) x0.f0 x0.f1 x0.f0 x0.f1 r.1 r.2.1) else ((signed_Right.f x0.f0 x0.f1).bind fun t342 => (if t342 = true then (some false) else (if r.2.2 = 1 then (if (r.2.1.length : Int) = 0 then (if t340 = 0 then ((signed_Cell.f k x0.f0 x0.f1 key 0).bind fun t343 => (if t343 = 0 then ((rillmeterlaw12_awake.f k).bind fun t344 => (some t344)) else (some false))) else (some false)) else (some false)) else (some false)))))))) (fun k => ?_) ?_
      · simp only [rillmeterlaw12_SignedTurns.j0]
        rw [if_neg (by simp), hr]
        unfold rillmeterlaw12_ref.f
        rw [Option.bind_some, Option.bind_some]
      · by_cases hok : OkRows x0.f1
        · have e := (ok_iff x0.f1).2 hok
          rw [e] at hright
          refine Ev.bind (f := fun k t340 => ((rillmeterref12_Right.f k x0.f0 x0.f1).bind fun t341 => (if t341 = true then (rillmeterlaw12_SignedTurns.l0 k key n r.2.2 t340 (-1) x0.f0 x0.f1 x0.f0 x0.f1 r.1 r.2.1) else ((signed_Right.f x0.f0 x0.f1).bind fun t342 => (if t342 = true then (some false) else (if r.2.2 = 1 then (if (r.2.1.length : Int) = 0 then (if t340 = 0 then ((signed_Cell.f k x0.f0 x0.f1 key 0).bind fun t343 => (if t343 = 0 then ((rillmeterlaw12_awake.f k).bind fun t344 => (some t344)) else (some false))) else (some false)) else (some false)) else (some false))))))) (signed_Get_ev hok x0.f0 key h0 h1 (by omega)) ?_
          refine Ev.bind (f := fun k t341 => (if t341 = true then (rillmeterlaw12_SignedTurns.l0 k key n r.2.2 (med (getL x0.f0 key x0.f1)) (-1) x0.f0 x0.f1 x0.f0 x0.f1 r.1 r.2.1) else ((signed_Right.f x0.f0 x0.f1).bind fun t342 => (if t342 = true then (some false) else (if r.2.2 = 1 then (if (r.2.1.length : Int) = 0 then (if med (getL x0.f0 key x0.f1) = 0 then ((signed_Cell.f k x0.f0 x0.f1 key 0).bind fun t343 => (if t343 = 0 then ((rillmeterlaw12_awake.f k).bind fun t344 => (some t344)) else (some false))) else (some false)) else (some false)) else (some false)))))) hright ?_
          simp only [if_pos trivial]
          exact turns_l0 hok x0.f0 key n h0 h1 hs r hr 10 (-1) (by omega) (by omega)
        · have e : signed_Right.ok x0.f1 = false := by
            cases e : signed_Right.ok x0.f1 with
            | false => rfl
            | true => exact absurd ((ok_iff x0.f1).1 e) hok
          rw [e] at hright
          rw [add_arg x0.f0 key n h0 h1 (by omega) (Or.inl hok)] at hr
          obtain rfl := Option.some.inj hr
          refine Ev.bind (f := fun k t340 => ((rillmeterref12_Right.f k x0.f0 x0.f1).bind fun t341 => (if t341 = true then (rillmeterlaw12_SignedTurns.l0 k key n 1 t340 (-1) x0.f0 x0.f1 x0.f0 x0.f1 0 []) else ((signed_Right.f x0.f0 x0.f1).bind fun t342 => (if t342 = true then (some false) else (if (1 : Int) = 1 then (if ((([] : List (List Int)).length : Nat) : Int) = 0 then (if t340 = 0 then ((signed_Cell.f k x0.f0 x0.f1 key 0).bind fun t343 => (if t343 = 0 then ((rillmeterlaw12_awake.f k).bind fun t344 => (some t344)) else (some false))) else (some false)) else (some false)) else (some false))))))) (signed_Get_none hok x0.f0 key) ?_
          refine Ev.bind (f := fun k t341 => (if t341 = true then (rillmeterlaw12_SignedTurns.l0 k key n 1 0 (-1) x0.f0 x0.f1 x0.f0 x0.f1 0 []) else ((signed_Right.f x0.f0 x0.f1).bind fun t342 => (if t342 = true then (some false) else (if (1 : Int) = 1 then (if ((([] : List (List Int)).length : Nat) : Int) = 0 then (if (0 : Int) = 0 then ((signed_Cell.f k x0.f0 x0.f1 key 0).bind fun t343 => (if t343 = 0 then ((rillmeterlaw12_awake.f k).bind fun t344 => (some t344)) else (some false))) else (some false)) else (some false)) else (some false)))))) hright ?_
          unfold signed_Right.f
          rw [e, show ((([] : List (List Int)).length : Nat) : Int) = 0 from rfl]
          simp only [Bool.false_eq_true, if_false, Option.bind_some, if_pos trivial]
          refine Ev.bind (f := fun k t343 => (if t343 = 0 then ((rillmeterlaw12_awake.f k).bind fun t344 => (some t344)) else (some false))) (signed_Cell_none hok x0.f0 key 0) ?_
          simp only [if_pos trivial]
          exact awake_bind
/-- SignedTurns holds. -/
theorem signedTurns_holds : Rows.SignedTurnsSaid := saidSignedTurns pureSignedTurns
end Go.Proofs.Yteaeigpeaneicaa.G
end
