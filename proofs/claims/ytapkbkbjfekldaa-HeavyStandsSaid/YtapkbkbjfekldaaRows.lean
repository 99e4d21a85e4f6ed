/-
  No cell of these rows narrows 'for every input' (looked for: loops, veiled, ifaces, maps, wideKeys, modest, calm, conditions, laid).
  DERIVED. THE GIVEN ROWS OF THIS SEAT. 5 by the template 'for every input the law returns true; each argument reads behind the call as it read before'; 0 by the template 'total and deterministic' (their statements: YtapkbkbjfekldaaTotals.lean).
  GIVEN WITH THE SEED: the statements are not yours to turn. If you find one false, say at which input.
  Laid BY PROGRAM, IN A SANDBOX (cutbox-rows.mjs): the forced cells as the released guide's own fill.sh prints them over the translation 040260322c24708d… (all of the seat's roots in one cut). By AI agents, Wed Nov 11 2026. No macro, syntax, notation, axiom, sorry.
-/
import Derived.Test.YtapkbkbjfekldaaChecked
import GoSem.Claim
import GoSem.ClaimJoined
import GoSem.ClaimMapViews
import Derived.JoinedTies
import Derived.KernelRfl
namespace Go.Proofs.Ytapkbkbjfekldaa
/- THE CELL 'sum', in the pinned program and in every row, IS THE sha256 OF THE DUMP (.gsa) THAT YtapkbkbjfekldaaProg.lean LOADS. Nothing in Lean hashes anything: it is a label: what it is worth is what the hold of that sum in a sandbox is worth. -/
noncomputable def Try.pinned : Pinned := { name := "ytapkbkbjfekldaa", sum := "040260322c24708d65beb95d345b974f9f54bfbd7f23d99c9b83e494d439f852", checked := Try.checked }
namespace Rows
def none {H : Type} : Left H := { results := [], args := [] }

/-- 'rillmeterlaw14.HeavyKeeps': WHATEVER THE INPUT: true; the input reads as it did. -/
def heavyKeepsSpec : ChangeSpec := { name := "heavyKeeps", fn := fun _ => fun
  | [d1, d2] => { results := [.lit (.bool true)], args := [d1, d2] }
  | _ => none }
def heavyKeepsRow : OpenClaim := { program := "ytapkbkbjfekldaa", sum := "040260322c24708d65beb95d345b974f9f54bfbd7f23d99c9b83e494d439f852", func := "rillmeter/rillmeterlaw14.HeavyKeeps", spec := "heavyKeeps", inPlace := ["internal/bytealg.abigen_runtime_cmpstring"], unfollowed := true, recurses := true, apart := false }
def HeavyKeepsSaid : Prop := heavyKeepsRow.holds Try.pinned (OpenSpec.ofChange heavyKeepsSpec)

/-- ITS FALSE NEIGHBOUR: 'it returns false'. Refute it at one input. -/
def heavyKeepsWrong : ChangeSpec := { name := "heavyKeeps", fn := fun _ => fun
  | [d1, d2] => { results := [.lit (.bool false)], args := [d1, d2] }
  | _ => none }
def HeavyKeepsWrongFalsely : Prop := heavyKeepsRow.holds Try.pinned (OpenSpec.ofChange heavyKeepsWrong)

/-- 'rillmeterlaw14.HeavyStands': WHATEVER THE INPUT: true; the input reads as it did. -/
def heavyStandsSpec : ChangeSpec := { name := "heavyStands", fn := fun _ => fun
  | [d1, d2] => { results := [.lit (.bool true)], args := [d1, d2] }
  | _ => none }
def heavyStandsRow : OpenClaim := { program := "ytapkbkbjfekldaa", sum := "040260322c24708d65beb95d345b974f9f54bfbd7f23d99c9b83e494d439f852", func := "rillmeter/rillmeterlaw14.HeavyStands", spec := "heavyStands", inPlace := ["internal/bytealg.abigen_runtime_cmpstring"], unfollowed := true, recurses := true, apart := false }
def HeavyStandsSaid : Prop := heavyStandsRow.holds Try.pinned (OpenSpec.ofChange heavyStandsSpec)

/-- ITS FALSE NEIGHBOUR: 'it returns false'. Refute it at one input. -/
def heavyStandsWrong : ChangeSpec := { name := "heavyStands", fn := fun _ => fun
  | [d1, d2] => { results := [.lit (.bool false)], args := [d1, d2] }
  | _ => none }
def HeavyStandsWrongFalsely : Prop := heavyStandsRow.holds Try.pinned (OpenSpec.ofChange heavyStandsWrong)

/-- 'rillmeterlaw14.HeavyTop': WHATEVER THE INPUT: true; the input reads as it did. -/
def heavyTopSpec : ChangeSpec := { name := "heavyTop", fn := fun _ => fun
  | [d1, d2] => { results := [.lit (.bool true)], args := [d1, d2] }
  | _ => none }
def heavyTopRow : OpenClaim := { program := "ytapkbkbjfekldaa", sum := "040260322c24708d65beb95d345b974f9f54bfbd7f23d99c9b83e494d439f852", func := "rillmeter/rillmeterlaw14.HeavyTop", spec := "heavyTop", inPlace := ["internal/bytealg.abigen_runtime_cmpstring"], unfollowed := true, recurses := true, apart := false }
def HeavyTopSaid : Prop := heavyTopRow.holds Try.pinned (OpenSpec.ofChange heavyTopSpec)

/-- ITS FALSE NEIGHBOUR: 'it returns false'. Refute it at one input. -/
def heavyTopWrong : ChangeSpec := { name := "heavyTop", fn := fun _ => fun
  | [d1, d2] => { results := [.lit (.bool false)], args := [d1, d2] }
  | _ => none }
def HeavyTopWrongFalsely : Prop := heavyTopRow.holds Try.pinned (OpenSpec.ofChange heavyTopWrong)

/-- 'rillmeterlaw14.HeavyNone': WHATEVER THE INPUT: true; the input reads as it did. -/
def heavyNoneSpec : ChangeSpec := { name := "heavyNone", fn := fun _ => fun
  | [d1, d2] => { results := [.lit (.bool true)], args := [d1, d2] }
  | _ => none }
def heavyNoneRow : OpenClaim := { program := "ytapkbkbjfekldaa", sum := "040260322c24708d65beb95d345b974f9f54bfbd7f23d99c9b83e494d439f852", func := "rillmeter/rillmeterlaw14.HeavyNone", spec := "heavyNone", inPlace := ["internal/bytealg.abigen_runtime_cmpstring"], unfollowed := true, recurses := true, apart := false }
def HeavyNoneSaid : Prop := heavyNoneRow.holds Try.pinned (OpenSpec.ofChange heavyNoneSpec)

/-- ITS FALSE NEIGHBOUR: 'it returns false'. Refute it at one input. -/
def heavyNoneWrong : ChangeSpec := { name := "heavyNone", fn := fun _ => fun
  | [d1, d2] => { results := [.lit (.bool false)], args := [d1, d2] }
  | _ => none }
def HeavyNoneWrongFalsely : Prop := heavyNoneRow.holds Try.pinned (OpenSpec.ofChange heavyNoneWrong)

/-- 'rillmeterlaw14.HeavyPlays': WHATEVER THE INPUT: true; the input reads as it did. -/
def heavyPlaysSpec : ChangeSpec := { name := "heavyPlays", fn := fun _ => fun
  | [d1, d2] => { results := [.lit (.bool true)], args := [d1, d2] }
  | _ => none }
def heavyPlaysRow : OpenClaim := { program := "ytapkbkbjfekldaa", sum := "040260322c24708d65beb95d345b974f9f54bfbd7f23d99c9b83e494d439f852", func := "rillmeter/rillmeterlaw14.HeavyPlays", spec := "heavyPlays", inPlace := ["internal/bytealg.abigen_runtime_cmpstring"], unfollowed := true, recurses := true, apart := false }
def HeavyPlaysSaid : Prop := heavyPlaysRow.holds Try.pinned (OpenSpec.ofChange heavyPlaysSpec)

/-- ITS FALSE NEIGHBOUR: 'it returns false'. Refute it at one input. -/
def heavyPlaysWrong : ChangeSpec := { name := "heavyPlays", fn := fun _ => fun
  | [d1, d2] => { results := [.lit (.bool false)], args := [d1, d2] }
  | _ => none }
def HeavyPlaysWrongFalsely : Prop := heavyPlaysRow.holds Try.pinned (OpenSpec.ofChange heavyPlaysWrong)

/- THE SECOND FORM. 'bulk': how many values and letters a reading holds, each counted each time it is reached (what is shared counts as often as it is met; a slice's spare places count too). A statement '..UptoSaid' is the law's where the arguments, and the package variables that the reading takes, are together of bulk at most 1048576: NARROWER than '..Said'. Prove '..Said' where nothing that the law and all that it calls make is longer than what came in: it says more and counts as full. Else prove '..UptoSaid'. A law counts once. -/
mutual
def uptoBulk {H : Type} : DataW H → Nat
  | .lit (.string bytes) => bytes.length + 1
  | .lit _ => 1
  | .nil => 1
  | .ptr d => uptoBulk d + 1
  | .slice elems spare => uptoBulkAll elems + uptoBulkAll spare + 1
  | .agg parts => uptoBulkAll parts + 1
  | .iface _ d => uptoBulk d + 1
  | .map entries => uptoBulkEntries entries + 1
  | .held _ => 1
def uptoBulkAll {H : Type} : List (DataW H) → Nat
  | [] => 0
  | d :: r => uptoBulk d + uptoBulkAll r
def uptoBulkEntries {H : Type} : List (Lit × DataW H) → Nat
  | [] => 0
  | x :: r => uptoBulkEntry x + uptoBulkEntries r
def uptoBulkEntry {H : Type} : Lit × DataW H → Nat
  | (.string bytes, d) => bytes.length + uptoBulk d + 1
  | (_, d) => uptoBulk d + 1
 end
def uptoSmall : (H : Type) → List (DataW H) → Bool := fun _ ds => decide (uptoBulkAll ds ≤ 1048576)
def OpenSpec.upto (s : _root_.Go.ChangeSpec) : _root_.Go.OpenSpec := { _root_.Go.OpenSpec.ofChange s with cond := some uptoSmall }

/-- 'rillmeterlaw14.HeavyKeeps', WHERE WHAT IT READS IS OF BULK AT MOST 1048576: true; the input reads as it did. -/
def heavyKeepsUptoRow : OpenClaim := { program := "ytapkbkbjfekldaa", sum := "040260322c24708d65beb95d345b974f9f54bfbd7f23d99c9b83e494d439f852", func := "rillmeter/rillmeterlaw14.HeavyKeeps", spec := "heavyKeeps", inPlace := ["internal/bytealg.abigen_runtime_cmpstring"], unfollowed := true, recurses := true, apart := false, narrowed := true }
def HeavyKeepsUptoSaid : Prop := heavyKeepsUptoRow.holds Try.pinned (OpenSpec.upto heavyKeepsSpec)

/-- 'rillmeterlaw14.HeavyStands', WHERE WHAT IT READS IS OF BULK AT MOST 1048576: true; the input reads as it did. -/
def heavyStandsUptoRow : OpenClaim := { program := "ytapkbkbjfekldaa", sum := "040260322c24708d65beb95d345b974f9f54bfbd7f23d99c9b83e494d439f852", func := "rillmeter/rillmeterlaw14.HeavyStands", spec := "heavyStands", inPlace := ["internal/bytealg.abigen_runtime_cmpstring"], unfollowed := true, recurses := true, apart := false, narrowed := true }
def HeavyStandsUptoSaid : Prop := heavyStandsUptoRow.holds Try.pinned (OpenSpec.upto heavyStandsSpec)

/-- 'rillmeterlaw14.HeavyTop', WHERE WHAT IT READS IS OF BULK AT MOST 1048576: true; the input reads as it did. -/
def heavyTopUptoRow : OpenClaim := { program := "ytapkbkbjfekldaa", sum := "040260322c24708d65beb95d345b974f9f54bfbd7f23d99c9b83e494d439f852", func := "rillmeter/rillmeterlaw14.HeavyTop", spec := "heavyTop", inPlace := ["internal/bytealg.abigen_runtime_cmpstring"], unfollowed := true, recurses := true, apart := false, narrowed := true }
def HeavyTopUptoSaid : Prop := heavyTopUptoRow.holds Try.pinned (OpenSpec.upto heavyTopSpec)

/-- 'rillmeterlaw14.HeavyNone', WHERE WHAT IT READS IS OF BULK AT MOST 1048576: true; the input reads as it did. -/
def heavyNoneUptoRow : OpenClaim := { program := "ytapkbkbjfekldaa", sum := "040260322c24708d65beb95d345b974f9f54bfbd7f23d99c9b83e494d439f852", func := "rillmeter/rillmeterlaw14.HeavyNone", spec := "heavyNone", inPlace := ["internal/bytealg.abigen_runtime_cmpstring"], unfollowed := true, recurses := true, apart := false, narrowed := true }
def HeavyNoneUptoSaid : Prop := heavyNoneUptoRow.holds Try.pinned (OpenSpec.upto heavyNoneSpec)

/-- 'rillmeterlaw14.HeavyPlays', WHERE WHAT IT READS IS OF BULK AT MOST 1048576: true; the input reads as it did. -/
def heavyPlaysUptoRow : OpenClaim := { program := "ytapkbkbjfekldaa", sum := "040260322c24708d65beb95d345b974f9f54bfbd7f23d99c9b83e494d439f852", func := "rillmeter/rillmeterlaw14.HeavyPlays", spec := "heavyPlays", inPlace := ["internal/bytealg.abigen_runtime_cmpstring"], unfollowed := true, recurses := true, apart := false, narrowed := true }
def HeavyPlaysUptoSaid : Prop := heavyPlaysUptoRow.holds Try.pinned (OpenSpec.upto heavyPlaysSpec)

end Rows
end Go.Proofs.Ytapkbkbjfekldaa
