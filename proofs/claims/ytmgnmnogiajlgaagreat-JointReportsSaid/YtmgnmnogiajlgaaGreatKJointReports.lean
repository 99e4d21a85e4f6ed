/- A switch is Decoded just if nothing is left of it and its equations have one solution: for all data, no condition beyond the statement's own. -/
import Derived.Test.YtmgnmnogiajlgaaGreatRows
import Derived.Test.YtmgnmnogiajlgaaGreatK2
import Derived.Test.YtmgnmnogiajlgaaGreatK5
import Derived.WalkKit
import Derived.ProofKit
import Derived.OpenShut
import Derived.ShutString
import Derived.ChangeOld
import Derived.Below
import Derived.SizedLaws
namespace Go.Proofs.YtmgnmnogiajlgaaGreat.G
open Go Go.RowKit Go.ChangeShapes Go.WideShapes Go.ChangeAt Go.Proofs.Vm Go.Proofs.YtmgnmnogiajlgaaGreatF
theorem ownJointReports : ownKnob Tryz.prog.godebug = none := by kernel_rfl
theorem laidOutJointReports : laidOutB Tryz.prog = true := by kernel_rfl
set_option maxRecDepth 100000 in
set_option maxHeartbeats 2000000 in
theorem liftedJointReports (os : Os) (started : os.Started) (H : Type) (enc : TypeId × Value → H) :
    ReturnsInHanded {} Tryz.checked os 5 .any (Rows.jointReportsSpec.pre6 enc Tryz.prog Tryz.f5 Rows.jointReportsRow.domain false) (Rows.jointReportsSpec.post enc Tryz.prog Tryz.f5 false true false false) := by
  refine returnsInHanded_of_change_sized (C := Tryz.checked) ownJointReports started (by kernel_rfl) Tryz.func5
    (ChangeSpec.witness6 (enc := enc) (C := Tryz.checked) false ⟨#[], #[.slice none 0 0], []⟩ 8 (by kernel_rfl) (by kernel_rfl) (by kernel_rfl) (by kernel_rfl)) ?_
  intro W base args ds gs before hval0 hW hcnd hsz0 _
  have hsz : (DataW.weightsEach Tryz.prog (Tryz.f5.params.toList ++ Rows.jointReportsSpec.plain.varTypes Tryz.prog) (ds ++ gs)).all (· ≤ reachBytes) = true := hsz0
  have hval : ∀ (j : Nat) t v, Tryz.f5.params[j]? = some t → args[j]? = some v → Value.okWide Tryz.prog W .any base t v := hval0
  have hW' := hW
  obtain ⟨p, q, hA0, hV, rfl, hfz, hnd⟩ := hW
  have hA : DataW.TrodAll enc Tryz.prog W 0 (fun _ => true) true Tryz.f5.params.toList args.toList ds p := hA0
  rw [Tryz.params5] at hA hval hsz
  obtain ⟨rfl, rfl⟩ := trodVars_none hV
  have hdl := trodAll_len hA
  obtain ⟨d0, rfl⟩ : ∃ d0, ds = [d0] := by match ds, hdl with | [d0], _ => exact ⟨_, rfl⟩
  clear hA0 hval0 hsz0
  refine (lift_law tvOk.1 (ts := [22]) laidOutJointReports (by kernel_rfl) opensJointReports lawJointReports_all hA (fun j t v h1 h2 => hval j t v (by simpa using h1) h2) (weights_of hsz) (fun p hp => by cases hp)).mono fun e W' ⟨v, I', he, hR, hk, hb, hst⟩ => ?_
  obtain rfl : v = .bool true := by cases hR; rfl
  subst he
  exact ⟨_, rfl, _, _, _, [], _, [], hW', trodAll_mk1 (shut_bool Tryz.underlying4 _), hst, rfl, kept_of hk hb _, fun h => by cases h⟩
theorem jointReports_holds : Rows.JointReportsSaid :=
  OpenClaim.holds_of_wide 5 Tryz.f5 rfl rfl rfl rfl rfl rfl rfl ⟨rfl, rfl, rfl, rfl, rfl⟩ rfl rfl rfl rfl rfl (by kernel_rfl) Tryz.func5 (by kernel_rfl)
    (of_decide_eq_true (by kernel_rfl)) (by unfold Func.isWrapper; first | (rw [if_pos (by decide +kernel)]; kernel_rfl) | (rw [if_neg (by decide +kernel)]; exact ⟨rfl, rfl⟩))
    (fun os started H enc _ => liftedJointReports os started H enc)
end Go.Proofs.YtmgnmnogiajlgaaGreat.G
