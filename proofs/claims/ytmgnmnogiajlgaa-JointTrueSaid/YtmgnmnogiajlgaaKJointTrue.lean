/- Where filters tell flows apart a switch that is Decoded tells just the flows that came there, with their packets and bytes: for all data, no condition beyond the statement's own. -/
import Derived.Test.YtmgnmnogiajlgaaRows
import Derived.Test.YtmgnmnogiajlgaaK2
import Derived.Test.YtmgnmnogiajlgaaK4
import Derived.WalkKit
import Derived.ProofKit
import Derived.OpenShut
import Derived.ShutString
import Derived.ChangeOld
import Derived.Below
import Derived.SizedLaws
namespace Go.Proofs.Ytmgnmnogiajlgaa.G
open Go Go.RowKit Go.ChangeShapes Go.WideShapes Go.ChangeAt Go.Proofs.Vm Go.Proofs.YtmgnmnogiajlgaaF
theorem ownJointTrue : ownKnob Try.prog.godebug = none := by kernel_rfl
theorem laidOutJointTrue : laidOutB Try.prog = true := by kernel_rfl
set_option maxRecDepth 100000 in
set_option maxHeartbeats 2000000 in
theorem liftedJointTrue (os : Os) (started : os.Started) (H : Type) (enc : TypeId × Value → H) :
    ReturnsInHanded {} Try.checked os 3 .any (Rows.jointTrueSpec.pre6 enc Try.prog Try.f3 Rows.jointTrueRow.domain false) (Rows.jointTrueSpec.post enc Try.prog Try.f3 false true false false) := by
  refine returnsInHanded_of_change_sized (C := Try.checked) ownJointTrue started (by kernel_rfl) Try.func3
    (ChangeSpec.witness6 (enc := enc) (C := Try.checked) false ⟨#[], #[.agg #[.int .u64 0, .int .i64 0, .int .i64 0, .int .i64 0, .int .i64 0], .slice none 0 0], []⟩ 8 (by kernel_rfl) (by kernel_rfl) (by kernel_rfl) (by kernel_rfl)) ?_
  intro W base args ds gs before hval0 hW hcnd hsz0 _
  have hsz : (DataW.weightsEach Try.prog (Try.f3.params.toList ++ Rows.jointTrueSpec.plain.varTypes Try.prog) (ds ++ gs)).all (· ≤ reachBytes) = true := hsz0
  have hval : ∀ (j : Nat) t v, Try.f3.params[j]? = some t → args[j]? = some v → Value.okWide Try.prog W .any base t v := hval0
  have hW' := hW
  obtain ⟨p, q, hA0, hV, rfl, hfz, hnd⟩ := hW
  have hA : DataW.TrodAll enc Try.prog W 0 (fun _ => true) true Try.f3.params.toList args.toList ds p := hA0
  rw [Try.params3] at hA hval hsz
  obtain ⟨rfl, rfl⟩ := trodVars_none hV
  have hdl := trodAll_len hA
  obtain ⟨d0, d1, rfl⟩ : ∃ d0 d1, ds = [d0, d1] := by match ds, hdl with | [d0, d1], _ => exact ⟨_, _, rfl⟩
  clear hA0 hval0 hsz0
  refine (lift_law tvOk.1 (ts := [24, 25]) laidOutJointTrue (by kernel_rfl) opensJointTrue lawJointTrue_all hA (fun j t v h1 h2 => hval j t v (by simpa using h1) h2) (weights_of hsz) (fun p hp => by cases hp)).mono fun e W' ⟨v, I', he, hR, hk, hb, hst⟩ => ?_
  obtain rfl : v = .bool true := by cases hR; rfl
  subst he
  exact ⟨_, rfl, _, _, _, [], _, [], hW', trodAll_mk1 (shut_bool Try.underlying4 _), hst, rfl, kept_of hk hb _, fun h => by cases h⟩
theorem jointTrue_holds : Rows.JointTrueSaid :=
  OpenClaim.holds_of_wide 3 Try.f3 rfl rfl rfl rfl rfl rfl rfl ⟨rfl, rfl, rfl, rfl, rfl⟩ rfl rfl rfl rfl rfl (by kernel_rfl) Try.func3 (by kernel_rfl)
    (of_decide_eq_true (by kernel_rfl)) (by unfold Func.isWrapper; first | (rw [if_pos (by decide +kernel)]; kernel_rfl) | (rw [if_neg (by decide +kernel)]; exact ⟨rfl, rfl⟩))
    (fun os started H enc _ => liftedJointTrue os started H enc)
end Go.Proofs.Ytmgnmnogiajlgaa.G
