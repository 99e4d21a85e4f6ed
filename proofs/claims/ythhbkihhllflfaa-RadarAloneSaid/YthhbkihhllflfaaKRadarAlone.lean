/- One flow alone is peeled, and leaves nothing: for all data, no condition beyond the statement's own. -/
import Derived.Test.YthhbkihhllflfaaRows
import Derived.Test.YthhbkihhllflfaaK2
import Derived.Test.YthhbkihhllflfaaK3
import Derived.WalkKit
import Derived.ProofKit
import Derived.OpenShut
import Derived.ShutString
import Derived.ChangeOld
import Derived.Below
import Derived.SizedLaws
namespace Go.Proofs.Ythhbkihhllflfaa.G
open Go Go.RowKit Go.ChangeShapes Go.WideShapes Go.ChangeAt Go.Proofs.Vm Go.Proofs.YthhbkihhllflfaaF
theorem ownRadarAlone : ownKnob Try.prog.godebug = none := by kernel_rfl
theorem laidOutRadarAlone : laidOutB Try.prog = true := by kernel_rfl
set_option maxRecDepth 100000 in
set_option maxHeartbeats 2000000 in
theorem liftedRadarAlone (os : Os) (started : os.Started) (H : Type) (enc : TypeId × Value → H) :
    ReturnsInHanded {} Try.checked os 6 .any (Rows.radarAloneSpec.pre6 enc Try.prog Try.f6 Rows.radarAloneRow.domain false) (Rows.radarAloneSpec.post enc Try.prog Try.f6 false true false false) := by
  refine returnsInHanded_of_change_sized (C := Try.checked) ownRadarAlone started (by kernel_rfl) Try.func6
    (ChangeSpec.witness6 (enc := enc) (C := Try.checked) false ⟨#[], #[.agg #[.int .u64 0, .int .i64 0, .int .i64 0, .int .i64 0, .int .i64 0], .string ByteArray.empty, .slice none 0 0], []⟩ 8 (by kernel_rfl) (by kernel_rfl) (by kernel_rfl) (by kernel_rfl)) ?_
  intro W base args ds gs before hval0 hW hcnd hsz0 _
  have hsz : (DataW.weightsEach Try.prog (Try.f6.params.toList ++ Rows.radarAloneSpec.plain.varTypes Try.prog) (ds ++ gs)).all (· ≤ reachBytes) = true := hsz0
  have hval : ∀ (j : Nat) t v, Try.f6.params[j]? = some t → args[j]? = some v → Value.okWide Try.prog W .any base t v := hval0
  have hW' := hW
  obtain ⟨p, q, hA0, hV, rfl, hfz, hnd⟩ := hW
  have hA : DataW.TrodAll enc Try.prog W 0 (fun _ => true) true Try.f6.params.toList args.toList ds p := hA0
  rw [Try.params6] at hA hval hsz
  obtain ⟨rfl, rfl⟩ := trodVars_none hV
  have hdl := trodAll_len hA
  obtain ⟨d0, d1, d2, rfl⟩ : ∃ d0 d1 d2, ds = [d0, d1, d2] := by match ds, hdl with | [d0, d1, d2], _ => exact ⟨_, _, _, rfl⟩
  clear hA0 hval0 hsz0
  refine (lift_law tvOk.1 (ts := [49, 9, 58]) laidOutRadarAlone (by kernel_rfl) opensRadarAlone lawRadarAlone_all hA (fun j t v h1 h2 => hval j t v (by simpa using h1) h2) (weights_of hsz)).mono fun e W' ⟨v, I', he, hR, hk, hb, hst⟩ => ?_
  obtain rfl : v = .bool true := by cases hR; rfl
  subst he
  exact ⟨_, rfl, _, _, _, [], _, [], hW', trodAll_mk1 (shut_bool Try.underlying4 _), hst, rfl, kept_of hk hb _, fun h => by cases h⟩
theorem radarAlone_holds : Rows.RadarAloneSaid :=
  OpenClaim.holds_of_wide 6 Try.f6 rfl rfl rfl rfl rfl rfl rfl ⟨rfl, rfl, rfl, rfl, rfl⟩ rfl rfl rfl rfl rfl (by kernel_rfl) Try.func6 (by kernel_rfl)
    (of_decide_eq_true (by kernel_rfl)) (by unfold Func.isWrapper; first | (rw [if_pos (by decide +kernel)]; kernel_rfl) | (rw [if_neg (by decide +kernel)]; exact ⟨rfl, rfl⟩))
    (fun os started H enc _ => liftedRadarAlone os started H enc)
end Go.Proofs.Ythhbkihhllflfaa.G
