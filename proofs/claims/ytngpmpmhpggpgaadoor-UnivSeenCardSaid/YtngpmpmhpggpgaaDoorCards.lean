/-
  DERIVED. GIVEN WITH THE SEED: THE CARDS: each row of YtngpmpmhpggpgaaDoorRows.lean that lists a variable, with what it lists TIED to the program's text (the seventh form; the later family's looks); each row that meets fmt, with fmt's text TOLD by the authors' own Lean function (tested against real Go, not proved from fmt's source: count such statements apart). THE CARD IS WHAT COUNTS. Prove the row's statement (the work); the ties are given (YtngpmpmhpggpgaaDoorTie.lean); close each card by the builder's one call (the guide's Derived/Test/ToyasCard.lean, 'card_holds'). Laid BY PROGRAM, IN A SANDBOX (cutbox-door.mjs). By AI agents, Wed Nov 11 2026. No macro, syntax, notation, axiom, sorry.
-/
import Derived.Test.YtngpmpmhpggpgaaDoorRows
import GoSem.ClaimSeven
namespace Go.Proofs.YtngpmpmhpggpgaaDoor
namespace Rows

/-- THE TIED CARD OF 'rillmeterlaw18.UnivLogs'. -/
def univLogsCard : Claim7 := { stood := { row := univLogsRow, standIns := [], harness := (true, "5d4f66d75ec6b1d2ebc380e6cb26a772e79a7dbe0652d50a44ce2685efc6cda3"), looks := false }, kinds := [], alts := [], laidByText := true, laidKinds := [.data], laidTests := true, laidLooks := .later }
def UnivLogsCardSaid : Prop := Claim7.holds Tryd.pinned (.plain (OpenSpec.ofChange univLogsSpec)) univLogsCard

/-- THE TIED CARD OF 'rillmeterlaw18.UnivRises'. -/
def univRisesCard : Claim7 := { stood := { row := univRisesRow, standIns := [], harness := (true, "5d4f66d75ec6b1d2ebc380e6cb26a772e79a7dbe0652d50a44ce2685efc6cda3"), looks := false }, kinds := [], alts := [], laidByText := true, laidKinds := [.data], laidTests := true, laidLooks := .later }
def UnivRisesCardSaid : Prop := Claim7.holds Tryd.pinned (.plain (OpenSpec.ofChange univRisesSpec)) univRisesCard

/-- THE TIED CARD OF 'rillmeterlaw18.UnivSeen'. -/
def univSeenCard : Claim7 := { stood := { row := univSeenRow, standIns := [], harness := (true, "5d4f66d75ec6b1d2ebc380e6cb26a772e79a7dbe0652d50a44ce2685efc6cda3"), looks := false }, kinds := [], alts := [], laidByText := true, laidKinds := [.data], laidTests := true, laidLooks := .later }
def UnivSeenCardSaid : Prop := Claim7.holds Tryd.pinned (.plain (OpenSpec.ofChange univSeenSpec)) univSeenCard

/-- THE SECOND FORM's CARD OF 'rillmeterlaw18.UnivLogs'. -/
def univLogsUptoCard : Claim7 := { stood := { row := univLogsUptoRow, standIns := [], harness := (true, "5d4f66d75ec6b1d2ebc380e6cb26a772e79a7dbe0652d50a44ce2685efc6cda3"), looks := false }, kinds := [], alts := [], laidByText := true, laidKinds := [.data], laidTests := true, laidLooks := .later }
def UnivLogsUptoCardSaid : Prop := Claim7.holds Tryd.pinned (.plain (OpenSpec.upto univLogsSpec)) univLogsUptoCard

/-- THE SECOND FORM's CARD OF 'rillmeterlaw18.UnivRises'. -/
def univRisesUptoCard : Claim7 := { stood := { row := univRisesUptoRow, standIns := [], harness := (true, "5d4f66d75ec6b1d2ebc380e6cb26a772e79a7dbe0652d50a44ce2685efc6cda3"), looks := false }, kinds := [], alts := [], laidByText := true, laidKinds := [.data], laidTests := true, laidLooks := .later }
def UnivRisesUptoCardSaid : Prop := Claim7.holds Tryd.pinned (.plain (OpenSpec.upto univRisesSpec)) univRisesUptoCard

/-- THE SECOND FORM's CARD OF 'rillmeterlaw18.UnivSeen'. -/
def univSeenUptoCard : Claim7 := { stood := { row := univSeenUptoRow, standIns := [], harness := (true, "5d4f66d75ec6b1d2ebc380e6cb26a772e79a7dbe0652d50a44ce2685efc6cda3"), looks := false }, kinds := [], alts := [], laidByText := true, laidKinds := [.data], laidTests := true, laidLooks := .later }
def UnivSeenUptoCardSaid : Prop := Claim7.holds Tryd.pinned (.plain (OpenSpec.upto univSeenSpec)) univSeenUptoCard
end Rows
end Go.Proofs.YtngpmpmhpggpgaaDoor
