/- Each item came; there are never more than room; the first level has each key that came, if there is room: for all data, no condition beyond the statement's own. -/
import Derived.Test.YtngpmpmhpggpgaaDoorRows
import Derived.Test.YtngpmpmhpggpgaaDoorS2
import Derived.Test.YtngpmpmhpggpgaaDoorS3
import Derived.WalkKit
import Derived.ProofKit
import Derived.OpenShut
import Derived.ShutString
import Derived.ChangeOld
import Derived.Below
import Derived.SizedLaws
import Derived.LaidMore
import Derived.Stop.Joined
import Derived.SevenTiedAt
import Derived.Test.YtngpmpmhpggpgaaDoorCards
import Derived.Test.YtngpmpmhpggpgaaDoorTie
namespace Go.Proofs.YtngpmpmhpggpgaaDoor.G
open Go Go.RowKit Go.ChangeShapes Go.WideShapes Go.ChangeAt Go.Proofs.Vm Go.Proofs.YtngpmpmhpggpgaaDoorF
theorem ownUnivSeen : ownKnob Tryd.prog.godebug = none := by kernel_rfl
theorem laidOutUnivSeen : laidOutB Tryd.prog = true := by kernel_rfl
set_option maxRecDepth 100000 in
set_option maxHeartbeats 2000000 in
theorem liftedUnivSeen (os : Os) (started : os.Started) (H : Type) (enc : TypeId × Value → H) :
    ReturnsInHanded {} Tryd.checked os 5 .any (fun w args => (Rows.univSeenSpec.pre enc Tryd.prog Tryd.f5 [] false w args ∧ laidMetH Tryd.prog laidL w) ∧ sizedMet enc Tryd.prog Tryd.f5 (OpenSpec.ofChange Rows.univSeenSpec) false w args) (Rows.univSeenSpec.post enc Tryd.prog Tryd.f5 false true false false) := by
  refine returnsInHanded_of_change_and (C := Tryd.checked) (X := fun w _ => laidMetH Tryd.prog laidL w) (fun _ _ _ hh h => h.of_heap hh) ownUnivSeen started (by kernel_rfl) Tryd.func5
    (ChangeSpec.witness_shaped (enc := enc) (C := Tryd.checked) (os := os) (X := fun w _ => laidMetH Tryd.prog laidL w) false (World.doorLaid Tryd.prog doorSteps os) #[.agg #[.int .u64 0, .int .i64 0, .int .i64 0, .int .i64 0, .int .i64 0], .slice none 0 0] 8 rfl (World.shaped_of_RefB (by kernel_rfl) (by kernel_rfl)) (by kernel_rfl) (by kernel_rfl) (by kernel_rfl) (door_met os _)) ?_
  intro W base args ds gs before hval0 hW hcnd hsz0 hL _
  have hsz : (DataW.weightsEach Tryd.prog (Tryd.f5.params.toList ++ Rows.univSeenSpec.plain.varTypes Tryd.prog) (ds ++ gs)).all (· ≤ reachBytes) = true := hsz0
  have hval : ∀ (j : Nat) t v, Tryd.f5.params[j]? = some t → args[j]? = some v → Value.okWide Tryd.prog W .any base t v := hval0
  have hW' := hW
  obtain ⟨p, q, hA0, hV, rfl, hfz, hnd⟩ := hW
  have hA : DataW.TrodAll enc Tryd.prog W 0 (fun _ => true) true Tryd.f5.params.toList args.toList ds p := hA0
  rw [Tryd.params5] at hA hval hsz
  obtain ⟨rfl, rfl⟩ := trodVars_none hV
  have hdl := trodAll_len hA
  obtain ⟨d0, d1, rfl⟩ : ∃ d0 d1, ds = [d0, d1] := by match ds, hdl with | [d0, d1], _ => exact ⟨_, _, rfl⟩
  clear hA0 hval0 hsz0
  refine (lift_law tvOk.1 (ts := [29, 30]) laidOutUnivSeen (by kernel_rfl) opensUnivSeen lawUnivSeen_all hA (fun j t v h1 h2 => hval j t v (by simpa using h1) h2) (weights_of hsz) (tabs_of_laid hL)).mono fun e W' ⟨v, I', he, hR, hk, hb, hst⟩ => ?_
  obtain rfl : v = .bool true := by cases hR; rfl
  subst he
  exact ⟨_, rfl, _, _, _, [], _, [], hW', trodAll_mk1 (shut_bool Tryd.underlying4 _), hst, rfl, kept_of hk hb _, fun h => by cases h⟩
theorem univSeen_holds : Rows.UnivSeenSaid :=
  OpenClaim.holds_of_wide 5 Tryd.f5 rfl rfl rfl rfl rfl rfl rfl ⟨rfl, rfl, rfl, rfl, rfl⟩ rfl rfl rfl rfl rfl (by kernel_rfl) Tryd.func5 (by kernel_rfl)
    (of_decide_eq_true (by kernel_rfl)) (by unfold Func.isWrapper; first | (rw [if_pos (by decide +kernel)]; kernel_rfl) | (rw [if_neg (by decide +kernel)]; exact ⟨rfl, rfl⟩))
    (fun os started H enc _ => liftedUnivSeen os started H enc)
theorem univSeen_card_holds : Rows.UnivSeenCardSaid :=
  Claim7.holds_tied_plain_at .later [] [.data] true (true, "5d4f66d75ec6b1d2ebc380e6cb26a772e79a7dbe0652d50a44ce2685efc6cda3") false
    univSeen_holds (fun _ h => by cases h) (by kernel_rfl) (fun _ h => by cases h) univSeen_row_tie rfl ⟨rfl, rfl⟩ (by kernel_rfl) rfl
    (fun f fn hf hfn => by
      obtain rfl : f = 5 := Option.some.inj ((show Tryd.prog.funcNamed "rillmeter/rillmeterlaw18.UnivSeen" = some 5 by kernel_rfl).symm.trans hf) |>.symm
      obtain rfl : fn = Tryd.f5 := (Option.some.inj (Tryd.func5.symm.trans hfn)).symm
      exact ⟨by kernel_rfl, fun j t ht => by
        rw [Tryd.params5] at ht
        have hm : t ∈ [29, 30] := by simpa using Array.mem_of_getElem? ht
        have hall : ([29, 30].all fun u => !Tryd.prog.wantsStandIn u) = true := by kernel_rfl
        exact (show Tryd.prog.wantsStandIn t = false by simpa using List.all_eq_true.1 hall t hm)⟩)
    (by kernel_rfl)
end Go.Proofs.YtngpmpmhpggpgaaDoor.G
