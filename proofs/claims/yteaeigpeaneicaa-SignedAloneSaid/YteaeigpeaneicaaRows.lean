/-
  No cell of these rows narrows 'for every input' (looked for: loops, veiled, ifaces, maps, wideKeys, modest, calm, conditions, laid).
  DERIVED. THE GIVEN ROWS OF THIS SEAT. 6 by the template 'for every input the law returns true; each argument reads behind the call as it read before'; 0 by the template 'total and deterministic' (their statements: YteaeigpeaneicaaTotals.lean).
  GIVEN WITH THE SEED: the statements are not yours to turn. If you find one false, say at which input.
  Laid BY PROGRAM, IN A SANDBOX (cutbox-rows.mjs): the forced cells as the released guide's own fill.sh prints them over the translation dc62b41e59b6aaa3… (all of the seat's roots in one cut). By AI agents, Wed Nov 11 2026. No macro, syntax, notation, axiom, sorry.
-/
import Derived.Test.YteaeigpeaneicaaChecked
import GoSem.Claim
import GoSem.ClaimJoined
import GoSem.ClaimMapViews
import Derived.JoinedTies
import Derived.KernelRfl
namespace Go.Proofs.Yteaeigpeaneicaa
/- THE CELL 'sum', in the pinned program and in every row, IS THE sha256 OF THE DUMP (.gsa) THAT YteaeigpeaneicaaProg.lean LOADS. Nothing in Lean hashes anything: it is a label: what it is worth is what the hold of that sum in a sandbox is worth. -/
noncomputable def Try.pinned : Pinned := { name := "yteaeigpeaneicaa", sum := "dc62b41e59b6aaa37f0e830d8f036c275fcef0bb90ad0c53f48f646786bdac0b", checked := Try.checked }
namespace Rows
def none {H : Type} : Left H := { results := [], args := [] }

/-- 'rillmeterlaw12.SignedNews': WHATEVER THE INPUT: true; the input reads as it did. -/
def signedNewsSpec : ChangeSpec := { name := "signedNews", fn := fun _ => fun
  | [d1, d2, d3] => { results := [.lit (.bool true)], args := [d1, d2, d3] }
  | _ => none }
def signedNewsRow : OpenClaim := { program := "yteaeigpeaneicaa", sum := "dc62b41e59b6aaa37f0e830d8f036c275fcef0bb90ad0c53f48f646786bdac0b", func := "rillmeter/rillmeterlaw12.SignedNews", spec := "signedNews", unfollowed := true, recurses := true, apart := false }
def SignedNewsSaid : Prop := signedNewsRow.holds Try.pinned (OpenSpec.ofChange signedNewsSpec)

/-- ITS FALSE NEIGHBOUR: 'it returns false'. Refute it at one input. -/
def signedNewsWrong : ChangeSpec := { name := "signedNews", fn := fun _ => fun
  | [d1, d2, d3] => { results := [.lit (.bool false)], args := [d1, d2, d3] }
  | _ => none }
def SignedNewsWrongFalsely : Prop := signedNewsRow.holds Try.pinned (OpenSpec.ofChange signedNewsWrong)

/-- 'rillmeterlaw12.SignedTwice': WHATEVER THE INPUT: true; the input reads as it did. -/
def signedTwiceSpec : ChangeSpec := { name := "signedTwice", fn := fun _ => fun
  | [d1, d2, d3, d4] => { results := [.lit (.bool true)], args := [d1, d2, d3, d4] }
  | _ => none }
def signedTwiceRow : OpenClaim := { program := "yteaeigpeaneicaa", sum := "dc62b41e59b6aaa37f0e830d8f036c275fcef0bb90ad0c53f48f646786bdac0b", func := "rillmeter/rillmeterlaw12.SignedTwice", spec := "signedTwice", unfollowed := true, recurses := true, apart := false }
def SignedTwiceSaid : Prop := signedTwiceRow.holds Try.pinned (OpenSpec.ofChange signedTwiceSpec)

/-- ITS FALSE NEIGHBOUR: 'it returns false'. Refute it at one input. -/
def signedTwiceWrong : ChangeSpec := { name := "signedTwice", fn := fun _ => fun
  | [d1, d2, d3, d4] => { results := [.lit (.bool false)], args := [d1, d2, d3, d4] }
  | _ => none }
def SignedTwiceWrongFalsely : Prop := signedTwiceRow.holds Try.pinned (OpenSpec.ofChange signedTwiceWrong)

/-- 'rillmeterlaw12.SignedTurns': WHATEVER THE INPUT: true; the input reads as it did. -/
def signedTurnsSpec : ChangeSpec := { name := "signedTurns", fn := fun _ => fun
  | [d1, d2, d3] => { results := [.lit (.bool true)], args := [d1, d2, d3] }
  | _ => none }
def signedTurnsRow : OpenClaim := { program := "yteaeigpeaneicaa", sum := "dc62b41e59b6aaa37f0e830d8f036c275fcef0bb90ad0c53f48f646786bdac0b", func := "rillmeter/rillmeterlaw12.SignedTurns", spec := "signedTurns", unfollowed := true, recurses := true, apart := false }
def SignedTurnsSaid : Prop := signedTurnsRow.holds Try.pinned (OpenSpec.ofChange signedTurnsSpec)

/-- ITS FALSE NEIGHBOUR: 'it returns false'. Refute it at one input. -/
def signedTurnsWrong : ChangeSpec := { name := "signedTurns", fn := fun _ => fun
  | [d1, d2, d3] => { results := [.lit (.bool false)], args := [d1, d2, d3] }
  | _ => none }
def SignedTurnsWrongFalsely : Prop := signedTurnsRow.holds Try.pinned (OpenSpec.ofChange signedTurnsWrong)

/-- 'rillmeterlaw12.SignedAlone': WHATEVER THE INPUT: true; the input reads as it did. -/
def signedAloneSpec : ChangeSpec := { name := "signedAlone", fn := fun _ => fun
  | [d1, d2, d3, d4, d5] => { results := [.lit (.bool true)], args := [d1, d2, d3, d4, d5] }
  | _ => none }
def signedAloneRow : OpenClaim := { program := "yteaeigpeaneicaa", sum := "dc62b41e59b6aaa37f0e830d8f036c275fcef0bb90ad0c53f48f646786bdac0b", func := "rillmeter/rillmeterlaw12.SignedAlone", spec := "signedAlone", unfollowed := true, recurses := true, apart := false }
def SignedAloneSaid : Prop := signedAloneRow.holds Try.pinned (OpenSpec.ofChange signedAloneSpec)

/-- ITS FALSE NEIGHBOUR: 'it returns false'. Refute it at one input. -/
def signedAloneWrong : ChangeSpec := { name := "signedAlone", fn := fun _ => fun
  | [d1, d2, d3, d4, d5] => { results := [.lit (.bool false)], args := [d1, d2, d3, d4, d5] }
  | _ => none }
def SignedAloneWrongFalsely : Prop := signedAloneRow.holds Try.pinned (OpenSpec.ofChange signedAloneWrong)

/-- 'rillmeterlaw12.SignedMerges': WHATEVER THE INPUT: true; the input reads as it did. -/
def signedMergesSpec : ChangeSpec := { name := "signedMerges", fn := fun _ => fun
  | [d1, d2] => { results := [.lit (.bool true)], args := [d1, d2] }
  | _ => none }
def signedMergesRow : OpenClaim := { program := "yteaeigpeaneicaa", sum := "dc62b41e59b6aaa37f0e830d8f036c275fcef0bb90ad0c53f48f646786bdac0b", func := "rillmeter/rillmeterlaw12.SignedMerges", spec := "signedMerges", unfollowed := true, recurses := true, apart := false }
def SignedMergesSaid : Prop := signedMergesRow.holds Try.pinned (OpenSpec.ofChange signedMergesSpec)

/-- ITS FALSE NEIGHBOUR: 'it returns false'. Refute it at one input. -/
def signedMergesWrong : ChangeSpec := { name := "signedMerges", fn := fun _ => fun
  | [d1, d2] => { results := [.lit (.bool false)], args := [d1, d2] }
  | _ => none }
def SignedMergesWrongFalsely : Prop := signedMergesRow.holds Try.pinned (OpenSpec.ofChange signedMergesWrong)

/-- 'rillmeterlaw12.SignedOrder': WHATEVER THE INPUT: true; the input reads as it did. -/
def signedOrderSpec : ChangeSpec := { name := "signedOrder", fn := fun _ => fun
  | [d1, d2, d3, d4, d5] => { results := [.lit (.bool true)], args := [d1, d2, d3, d4, d5] }
  | _ => none }
def signedOrderRow : OpenClaim := { program := "yteaeigpeaneicaa", sum := "dc62b41e59b6aaa37f0e830d8f036c275fcef0bb90ad0c53f48f646786bdac0b", func := "rillmeter/rillmeterlaw12.SignedOrder", spec := "signedOrder", unfollowed := true, recurses := true, apart := false }
def SignedOrderSaid : Prop := signedOrderRow.holds Try.pinned (OpenSpec.ofChange signedOrderSpec)

/-- ITS FALSE NEIGHBOUR: 'it returns false'. Refute it at one input. -/
def signedOrderWrong : ChangeSpec := { name := "signedOrder", fn := fun _ => fun
  | [d1, d2, d3, d4, d5] => { results := [.lit (.bool false)], args := [d1, d2, d3, d4, d5] }
  | _ => none }
def SignedOrderWrongFalsely : Prop := signedOrderRow.holds Try.pinned (OpenSpec.ofChange signedOrderWrong)

/- THE SECOND FORM. 'bulk': how many values and letters a reading holds, each counted each time it is reached (what is shared counts as often as it is met; a slice's spare places count too). A statement '..UptoSaid' is the law's where the arguments, and the package variables that the reading takes, are together of bulk at most 1048576: NARROWER than '..Said'. Prove '..Said' where nothing that the law and all that it calls make is longer than what came in: it says more and counts as full. Else prove '..UptoSaid'. A law counts once. -/
mutual
def uptoBulk {H : Type} : DataW H → Nat
  | .lit (.string bytes) => bytes.length + 1
  | .lit _ => 1
  | .nil => 1
  | .ptr d => uptoBulk d + 1
  | .slice elems spare => uptoBulkAll elems + uptoBulkAll spare + 1
  | .agg parts => uptoBulkAll parts + 1
  | .iface _ d => uptoBulk d + 1
  | .map entries => uptoBulkEntries entries + 1
  | .held _ => 1
def uptoBulkAll {H : Type} : List (DataW H) → Nat
  | [] => 0
  | d :: r => uptoBulk d + uptoBulkAll r
def uptoBulkEntries {H : Type} : List (Lit × DataW H) → Nat
  | [] => 0
  | x :: r => uptoBulkEntry x + uptoBulkEntries r
def uptoBulkEntry {H : Type} : Lit × DataW H → Nat
  | (.string bytes, d) => bytes.length + uptoBulk d + 1
  | (_, d) => uptoBulk d + 1
 end
def uptoSmall : (H : Type) → List (DataW H) → Bool := fun _ ds => decide (uptoBulkAll ds ≤ 1048576)
def OpenSpec.upto (s : _root_.Go.ChangeSpec) : _root_.Go.OpenSpec := { _root_.Go.OpenSpec.ofChange s with cond := some uptoSmall }

/-- 'rillmeterlaw12.SignedNews', WHERE WHAT IT READS IS OF BULK AT MOST 1048576: true; the input reads as it did. -/
def signedNewsUptoRow : OpenClaim := { program := "yteaeigpeaneicaa", sum := "dc62b41e59b6aaa37f0e830d8f036c275fcef0bb90ad0c53f48f646786bdac0b", func := "rillmeter/rillmeterlaw12.SignedNews", spec := "signedNews", unfollowed := true, recurses := true, apart := false, narrowed := true }
def SignedNewsUptoSaid : Prop := signedNewsUptoRow.holds Try.pinned (OpenSpec.upto signedNewsSpec)

/-- 'rillmeterlaw12.SignedTwice', WHERE WHAT IT READS IS OF BULK AT MOST 1048576: true; the input reads as it did. -/
def signedTwiceUptoRow : OpenClaim := { program := "yteaeigpeaneicaa", sum := "dc62b41e59b6aaa37f0e830d8f036c275fcef0bb90ad0c53f48f646786bdac0b", func := "rillmeter/rillmeterlaw12.SignedTwice", spec := "signedTwice", unfollowed := true, recurses := true, apart := false, narrowed := true }
def SignedTwiceUptoSaid : Prop := signedTwiceUptoRow.holds Try.pinned (OpenSpec.upto signedTwiceSpec)

/-- 'rillmeterlaw12.SignedTurns', WHERE WHAT IT READS IS OF BULK AT MOST 1048576: true; the input reads as it did. -/
def signedTurnsUptoRow : OpenClaim := { program := "yteaeigpeaneicaa", sum := "dc62b41e59b6aaa37f0e830d8f036c275fcef0bb90ad0c53f48f646786bdac0b", func := "rillmeter/rillmeterlaw12.SignedTurns", spec := "signedTurns", unfollowed := true, recurses := true, apart := false, narrowed := true }
def SignedTurnsUptoSaid : Prop := signedTurnsUptoRow.holds Try.pinned (OpenSpec.upto signedTurnsSpec)

/-- 'rillmeterlaw12.SignedAlone', WHERE WHAT IT READS IS OF BULK AT MOST 1048576: true; the input reads as it did. -/
def signedAloneUptoRow : OpenClaim := { program := "yteaeigpeaneicaa", sum := "dc62b41e59b6aaa37f0e830d8f036c275fcef0bb90ad0c53f48f646786bdac0b", func := "rillmeter/rillmeterlaw12.SignedAlone", spec := "signedAlone", unfollowed := true, recurses := true, apart := false, narrowed := true }
def SignedAloneUptoSaid : Prop := signedAloneUptoRow.holds Try.pinned (OpenSpec.upto signedAloneSpec)

/-- 'rillmeterlaw12.SignedMerges', WHERE WHAT IT READS IS OF BULK AT MOST 1048576: true; the input reads as it did. -/
def signedMergesUptoRow : OpenClaim := { program := "yteaeigpeaneicaa", sum := "dc62b41e59b6aaa37f0e830d8f036c275fcef0bb90ad0c53f48f646786bdac0b", func := "rillmeter/rillmeterlaw12.SignedMerges", spec := "signedMerges", unfollowed := true, recurses := true, apart := false, narrowed := true }
def SignedMergesUptoSaid : Prop := signedMergesUptoRow.holds Try.pinned (OpenSpec.upto signedMergesSpec)

/-- 'rillmeterlaw12.SignedOrder', WHERE WHAT IT READS IS OF BULK AT MOST 1048576: true; the input reads as it did. -/
def signedOrderUptoRow : OpenClaim := { program := "yteaeigpeaneicaa", sum := "dc62b41e59b6aaa37f0e830d8f036c275fcef0bb90ad0c53f48f646786bdac0b", func := "rillmeter/rillmeterlaw12.SignedOrder", spec := "signedOrder", unfollowed := true, recurses := true, apart := false, narrowed := true }
def SignedOrderUptoSaid : Prop := signedOrderUptoRow.holds Try.pinned (OpenSpec.upto signedOrderSpec)

end Rows
end Go.Proofs.Yteaeigpeaneicaa
