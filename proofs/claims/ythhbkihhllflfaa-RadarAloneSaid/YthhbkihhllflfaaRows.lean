/-
  No cell of these rows narrows 'for every input' (looked for: loops, veiled, ifaces, maps, wideKeys, modest, calm, conditions, laid).
  DERIVED. THE GIVEN ROWS OF THIS SEAT. 7 by the template 'for every input the law returns true; each argument reads behind the call as it read before'; 0 by the template 'total and deterministic' (their statements: YthhbkihhllflfaaTotals.lean).
  GIVEN WITH THE SEED: the statements are not yours to turn. If you find one false, say at which input.
  Laid BY PROGRAM, IN A SANDBOX (cutbox-rows.mjs): the forced cells as the released guide's own fill.sh prints them over the translation a0042106a0b97269… (all of the seat's roots in one cut). By AI agents, Wed Nov 11 2026. No macro, syntax, notation, axiom, sorry.
-/
import Derived.Test.YthhbkihhllflfaaChecked
import GoSem.Claim
import GoSem.ClaimJoined
import GoSem.ClaimMapViews
import Derived.JoinedTies
import Derived.KernelRfl
namespace Go.Proofs.Ythhbkihhllflfaa
/- THE CELL 'sum', in the pinned program and in every row, IS THE sha256 OF THE DUMP (.gsa) THAT YthhbkihhllflfaaProg.lean LOADS. Nothing in Lean hashes anything: it is a label: what it is worth is what the hold of that sum in a sandbox is worth. -/
noncomputable def Try.pinned : Pinned := { name := "ythhbkihhllflfaa", sum := "a0042106a0b97269b8f3a279d5156860e4e1e2810774c5fce634683cc429d2c2", checked := Try.checked }
namespace Rows
def none {H : Type} : Left H := { results := [], args := [] }

/-- 'rillmeterlaw16.RadarPeels': WHATEVER THE INPUT: true; the input reads as it did. -/
def radarPeelsSpec : ChangeSpec := { name := "radarPeels", fn := fun _ => fun
  | [d1, d2] => { results := [.lit (.bool true)], args := [d1, d2] }
  | _ => none }
def radarPeelsRow : OpenClaim := { program := "ythhbkihhllflfaa", sum := "a0042106a0b97269b8f3a279d5156860e4e1e2810774c5fce634683cc429d2c2", func := "rillmeter/rillmeterlaw16.RadarPeels", spec := "radarPeels", unfollowed := true, recurses := true, apart := false }
def RadarPeelsSaid : Prop := radarPeelsRow.holds Try.pinned (OpenSpec.ofChange radarPeelsSpec)

/-- ITS FALSE NEIGHBOUR: 'it returns false'. Refute it at one input. -/
def radarPeelsWrong : ChangeSpec := { name := "radarPeels", fn := fun _ => fun
  | [d1, d2] => { results := [.lit (.bool false)], args := [d1, d2] }
  | _ => none }
def RadarPeelsWrongFalsely : Prop := radarPeelsRow.holds Try.pinned (OpenSpec.ofChange radarPeelsWrong)

/-- 'rillmeterlaw16.RadarFinds': WHATEVER THE INPUT: true; the input reads as it did. -/
def radarFindsSpec : ChangeSpec := { name := "radarFinds", fn := fun _ => fun
  | [d1, d2] => { results := [.lit (.bool true)], args := [d1, d2] }
  | _ => none }
def radarFindsRow : OpenClaim := { program := "ythhbkihhllflfaa", sum := "a0042106a0b97269b8f3a279d5156860e4e1e2810774c5fce634683cc429d2c2", func := "rillmeter/rillmeterlaw16.RadarFinds", spec := "radarFinds", unfollowed := true, recurses := true, apart := false }
def RadarFindsSaid : Prop := radarFindsRow.holds Try.pinned (OpenSpec.ofChange radarFindsSpec)

/-- ITS FALSE NEIGHBOUR: 'it returns false'. Refute it at one input. -/
def radarFindsWrong : ChangeSpec := { name := "radarFinds", fn := fun _ => fun
  | [d1, d2] => { results := [.lit (.bool false)], args := [d1, d2] }
  | _ => none }
def RadarFindsWrongFalsely : Prop := radarFindsRow.holds Try.pinned (OpenSpec.ofChange radarFindsWrong)

/-- 'rillmeterlaw16.RadarOrder': WHATEVER THE INPUT: true; the input reads as it did. -/
def radarOrderSpec : ChangeSpec := { name := "radarOrder", fn := fun _ => fun
  | [d1, d2] => { results := [.lit (.bool true)], args := [d1, d2] }
  | _ => none }
def radarOrderRow : OpenClaim := { program := "ythhbkihhllflfaa", sum := "a0042106a0b97269b8f3a279d5156860e4e1e2810774c5fce634683cc429d2c2", func := "rillmeter/rillmeterlaw16.RadarOrder", spec := "radarOrder", unfollowed := true, recurses := true, apart := false }
def RadarOrderSaid : Prop := radarOrderRow.holds Try.pinned (OpenSpec.ofChange radarOrderSpec)

/-- ITS FALSE NEIGHBOUR: 'it returns false'. Refute it at one input. -/
def radarOrderWrong : ChangeSpec := { name := "radarOrder", fn := fun _ => fun
  | [d1, d2] => { results := [.lit (.bool false)], args := [d1, d2] }
  | _ => none }
def RadarOrderWrongFalsely : Prop := radarOrderRow.holds Try.pinned (OpenSpec.ofChange radarOrderWrong)

/-- 'rillmeterlaw16.RadarAlone': WHATEVER THE INPUT: true; the input reads as it did. -/
def radarAloneSpec : ChangeSpec := { name := "radarAlone", fn := fun _ => fun
  | [d1, d2, d3] => { results := [.lit (.bool true)], args := [d1, d2, d3] }
  | _ => none }
def radarAloneRow : OpenClaim := { program := "ythhbkihhllflfaa", sum := "a0042106a0b97269b8f3a279d5156860e4e1e2810774c5fce634683cc429d2c2", func := "rillmeter/rillmeterlaw16.RadarAlone", spec := "radarAlone", unfollowed := true, recurses := true, apart := false }
def RadarAloneSaid : Prop := radarAloneRow.holds Try.pinned (OpenSpec.ofChange radarAloneSpec)

/-- ITS FALSE NEIGHBOUR: 'it returns false'. Refute it at one input. -/
def radarAloneWrong : ChangeSpec := { name := "radarAlone", fn := fun _ => fun
  | [d1, d2, d3] => { results := [.lit (.bool false)], args := [d1, d2, d3] }
  | _ => none }
def RadarAloneWrongFalsely : Prop := radarAloneRow.holds Try.pinned (OpenSpec.ofChange radarAloneWrong)

/-- 'rillmeterlaw16.RadarTurns': WHATEVER THE INPUT: true; the input reads as it did. -/
def radarTurnsSpec : ChangeSpec := { name := "radarTurns", fn := fun _ => fun
  | [d1, d2, d3, d4] => { results := [.lit (.bool true)], args := [d1, d2, d3, d4] }
  | _ => none }
def radarTurnsRow : OpenClaim := { program := "ythhbkihhllflfaa", sum := "a0042106a0b97269b8f3a279d5156860e4e1e2810774c5fce634683cc429d2c2", func := "rillmeter/rillmeterlaw16.RadarTurns", spec := "radarTurns", unfollowed := true, recurses := true, apart := false }
def RadarTurnsSaid : Prop := radarTurnsRow.holds Try.pinned (OpenSpec.ofChange radarTurnsSpec)

/-- ITS FALSE NEIGHBOUR: 'it returns false'. Refute it at one input. -/
def radarTurnsWrong : ChangeSpec := { name := "radarTurns", fn := fun _ => fun
  | [d1, d2, d3, d4] => { results := [.lit (.bool false)], args := [d1, d2, d3, d4] }
  | _ => none }
def RadarTurnsWrongFalsely : Prop := radarTurnsRow.holds Try.pinned (OpenSpec.ofChange radarTurnsWrong)

/-- 'rillmeterlaw16.RadarCounts': WHATEVER THE INPUT: true; the input reads as it did. -/
def radarCountsSpec : ChangeSpec := { name := "radarCounts", fn := fun _ => fun
  | [d1, d2] => { results := [.lit (.bool true)], args := [d1, d2] }
  | _ => none }
def radarCountsRow : OpenClaim := { program := "ythhbkihhllflfaa", sum := "a0042106a0b97269b8f3a279d5156860e4e1e2810774c5fce634683cc429d2c2", func := "rillmeter/rillmeterlaw16.RadarCounts", spec := "radarCounts", unfollowed := true, recurses := true, apart := false }
def RadarCountsSaid : Prop := radarCountsRow.holds Try.pinned (OpenSpec.ofChange radarCountsSpec)

/-- ITS FALSE NEIGHBOUR: 'it returns false'. Refute it at one input. -/
def radarCountsWrong : ChangeSpec := { name := "radarCounts", fn := fun _ => fun
  | [d1, d2] => { results := [.lit (.bool false)], args := [d1, d2] }
  | _ => none }
def RadarCountsWrongFalsely : Prop := radarCountsRow.holds Try.pinned (OpenSpec.ofChange radarCountsWrong)

/-- 'rillmeterlaw16.RadarNews': WHATEVER THE INPUT: true; the input reads as it did. -/
def radarNewsSpec : ChangeSpec := { name := "radarNews", fn := fun _ => fun
  | [d1, d2, d3, d4, d5] => { results := [.lit (.bool true)], args := [d1, d2, d3, d4, d5] }
  | _ => none }
def radarNewsRow : OpenClaim := { program := "ythhbkihhllflfaa", sum := "a0042106a0b97269b8f3a279d5156860e4e1e2810774c5fce634683cc429d2c2", func := "rillmeter/rillmeterlaw16.RadarNews", spec := "radarNews", unfollowed := true, recurses := true, apart := false }
def RadarNewsSaid : Prop := radarNewsRow.holds Try.pinned (OpenSpec.ofChange radarNewsSpec)

/-- ITS FALSE NEIGHBOUR: 'it returns false'. Refute it at one input. -/
def radarNewsWrong : ChangeSpec := { name := "radarNews", fn := fun _ => fun
  | [d1, d2, d3, d4, d5] => { results := [.lit (.bool false)], args := [d1, d2, d3, d4, d5] }
  | _ => none }
def RadarNewsWrongFalsely : Prop := radarNewsRow.holds Try.pinned (OpenSpec.ofChange radarNewsWrong)

/- THE SECOND FORM. 'bulk': how many values and letters a reading holds, each counted each time it is reached (what is shared counts as often as it is met; a slice's spare places count too). A statement '..UptoSaid' is the law's where the arguments, and the package variables that the reading takes, are together of bulk at most 1048576: NARROWER than '..Said'. Prove '..Said' where nothing that the law and all that it calls make is longer than what came in: it says more and counts as full. Else prove '..UptoSaid'. A law counts once. -/
mutual
def uptoBulk {H : Type} : DataW H → Nat
  | .lit (.string bytes) => bytes.length + 1
  | .lit _ => 1
  | .nil => 1
  | .ptr d => uptoBulk d + 1
  | .slice elems spare => uptoBulkAll elems + uptoBulkAll spare + 1
  | .agg parts => uptoBulkAll parts + 1
  | .iface _ d => uptoBulk d + 1
  | .map entries => uptoBulkEntries entries + 1
  | .held _ => 1
def uptoBulkAll {H : Type} : List (DataW H) → Nat
  | [] => 0
  | d :: r => uptoBulk d + uptoBulkAll r
def uptoBulkEntries {H : Type} : List (Lit × DataW H) → Nat
  | [] => 0
  | x :: r => uptoBulkEntry x + uptoBulkEntries r
def uptoBulkEntry {H : Type} : Lit × DataW H → Nat
  | (.string bytes, d) => bytes.length + uptoBulk d + 1
  | (_, d) => uptoBulk d + 1
 end
def uptoSmall : (H : Type) → List (DataW H) → Bool := fun _ ds => decide (uptoBulkAll ds ≤ 1048576)
def OpenSpec.upto (s : _root_.Go.ChangeSpec) : _root_.Go.OpenSpec := { _root_.Go.OpenSpec.ofChange s with cond := some uptoSmall }

/-- 'rillmeterlaw16.RadarPeels', WHERE WHAT IT READS IS OF BULK AT MOST 1048576: true; the input reads as it did. -/
def radarPeelsUptoRow : OpenClaim := { program := "ythhbkihhllflfaa", sum := "a0042106a0b97269b8f3a279d5156860e4e1e2810774c5fce634683cc429d2c2", func := "rillmeter/rillmeterlaw16.RadarPeels", spec := "radarPeels", unfollowed := true, recurses := true, apart := false, narrowed := true }
def RadarPeelsUptoSaid : Prop := radarPeelsUptoRow.holds Try.pinned (OpenSpec.upto radarPeelsSpec)

/-- 'rillmeterlaw16.RadarFinds', WHERE WHAT IT READS IS OF BULK AT MOST 1048576: true; the input reads as it did. -/
def radarFindsUptoRow : OpenClaim := { program := "ythhbkihhllflfaa", sum := "a0042106a0b97269b8f3a279d5156860e4e1e2810774c5fce634683cc429d2c2", func := "rillmeter/rillmeterlaw16.RadarFinds", spec := "radarFinds", unfollowed := true, recurses := true, apart := false, narrowed := true }
def RadarFindsUptoSaid : Prop := radarFindsUptoRow.holds Try.pinned (OpenSpec.upto radarFindsSpec)

/-- 'rillmeterlaw16.RadarOrder', WHERE WHAT IT READS IS OF BULK AT MOST 1048576: true; the input reads as it did. -/
def radarOrderUptoRow : OpenClaim := { program := "ythhbkihhllflfaa", sum := "a0042106a0b97269b8f3a279d5156860e4e1e2810774c5fce634683cc429d2c2", func := "rillmeter/rillmeterlaw16.RadarOrder", spec := "radarOrder", unfollowed := true, recurses := true, apart := false, narrowed := true }
def RadarOrderUptoSaid : Prop := radarOrderUptoRow.holds Try.pinned (OpenSpec.upto radarOrderSpec)

/-- 'rillmeterlaw16.RadarAlone', WHERE WHAT IT READS IS OF BULK AT MOST 1048576: true; the input reads as it did. -/
def radarAloneUptoRow : OpenClaim := { program := "ythhbkihhllflfaa", sum := "a0042106a0b97269b8f3a279d5156860e4e1e2810774c5fce634683cc429d2c2", func := "rillmeter/rillmeterlaw16.RadarAlone", spec := "radarAlone", unfollowed := true, recurses := true, apart := false, narrowed := true }
def RadarAloneUptoSaid : Prop := radarAloneUptoRow.holds Try.pinned (OpenSpec.upto radarAloneSpec)

/-- 'rillmeterlaw16.RadarTurns', WHERE WHAT IT READS IS OF BULK AT MOST 1048576: true; the input reads as it did. -/
def radarTurnsUptoRow : OpenClaim := { program := "ythhbkihhllflfaa", sum := "a0042106a0b97269b8f3a279d5156860e4e1e2810774c5fce634683cc429d2c2", func := "rillmeter/rillmeterlaw16.RadarTurns", spec := "radarTurns", unfollowed := true, recurses := true, apart := false, narrowed := true }
def RadarTurnsUptoSaid : Prop := radarTurnsUptoRow.holds Try.pinned (OpenSpec.upto radarTurnsSpec)

/-- 'rillmeterlaw16.RadarCounts', WHERE WHAT IT READS IS OF BULK AT MOST 1048576: true; the input reads as it did. -/
def radarCountsUptoRow : OpenClaim := { program := "ythhbkihhllflfaa", sum := "a0042106a0b97269b8f3a279d5156860e4e1e2810774c5fce634683cc429d2c2", func := "rillmeter/rillmeterlaw16.RadarCounts", spec := "radarCounts", unfollowed := true, recurses := true, apart := false, narrowed := true }
def RadarCountsUptoSaid : Prop := radarCountsUptoRow.holds Try.pinned (OpenSpec.upto radarCountsSpec)

/-- 'rillmeterlaw16.RadarNews', WHERE WHAT IT READS IS OF BULK AT MOST 1048576: true; the input reads as it did. -/
def radarNewsUptoRow : OpenClaim := { program := "ythhbkihhllflfaa", sum := "a0042106a0b97269b8f3a279d5156860e4e1e2810774c5fce634683cc429d2c2", func := "rillmeter/rillmeterlaw16.RadarNews", spec := "radarNews", unfollowed := true, recurses := true, apart := false, narrowed := true }
def RadarNewsUptoSaid : Prop := radarNewsUptoRow.holds Try.pinned (OpenSpec.upto radarNewsSpec)

end Rows
end Go.Proofs.Ythhbkihhllflfaa
