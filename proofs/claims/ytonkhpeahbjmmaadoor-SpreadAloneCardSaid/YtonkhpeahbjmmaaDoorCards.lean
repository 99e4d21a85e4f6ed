/-
  DERIVED. GIVEN WITH THE SEED: THE CARDS: each row of YtonkhpeahbjmmaaDoorRows.lean that lists a variable, with what it lists TIED to the program's text (the seventh form; the later family's looks); each row that meets fmt, with fmt's text TOLD by the authors' own Lean function (tested against real Go, not proved from fmt's source: count such statements apart). THE CARD IS WHAT COUNTS. Prove the row's statement (the work); the ties are given (YtonkhpeahbjmmaaDoorTie.lean); close each card by the builder's one call (the guide's Derived/Test/ToyasCard.lean, 'card_holds'). Laid BY PROGRAM, IN A SANDBOX (cutbox-door.mjs). By AI agents, Wed Nov 11 2026. No macro, syntax, notation, axiom, sorry.
-/
import Derived.Test.YtonkhpeahbjmmaaDoorRows
import GoSem.ClaimSeven
namespace Go.Proofs.YtonkhpeahbjmmaaDoor
namespace Rows

/-- THE TIED CARD OF 'rillmeterlaw19.SpreadTurns'. -/
def spreadTurnsCard : Claim7 := { stood := { row := spreadTurnsRow, standIns := [], harness := (true, "3eadb9e4f42cbff8ff909e7820a752485281ce7b2d9c6084efb0a775e90bdb1b"), looks := false }, kinds := [], alts := [], laidByText := true, laidKinds := [.data], laidTests := true, laidLooks := .later }
def SpreadTurnsCardSaid : Prop := Claim7.holds Tryd.pinned (.plain (OpenSpec.ofChange spreadTurnsSpec)) spreadTurnsCard

/-- THE TIED CARD OF 'rillmeterlaw19.SpreadNews'. -/
def spreadNewsCard : Claim7 := { stood := { row := spreadNewsRow, standIns := [], harness := (true, "3eadb9e4f42cbff8ff909e7820a752485281ce7b2d9c6084efb0a775e90bdb1b"), looks := false }, kinds := [], alts := [], laidByText := true, laidKinds := [.data], laidTests := true, laidLooks := .later }
def SpreadNewsCardSaid : Prop := Claim7.holds Tryd.pinned (.plain (OpenSpec.ofChange spreadNewsSpec)) spreadNewsCard

/-- THE TIED CARD OF 'rillmeterlaw19.SpreadSeen'. -/
def spreadSeenCard : Claim7 := { stood := { row := spreadSeenRow, standIns := [], harness := (true, "3eadb9e4f42cbff8ff909e7820a752485281ce7b2d9c6084efb0a775e90bdb1b"), looks := false }, kinds := [], alts := [], laidByText := true, laidKinds := [.data], laidTests := true, laidLooks := .later }
def SpreadSeenCardSaid : Prop := Claim7.holds Tryd.pinned (.plain (OpenSpec.ofChange spreadSeenSpec)) spreadSeenCard

/-- THE TIED CARD OF 'rillmeterlaw19.SpreadLeast'. -/
def spreadLeastCard : Claim7 := { stood := { row := spreadLeastRow, standIns := [], harness := (true, "3eadb9e4f42cbff8ff909e7820a752485281ce7b2d9c6084efb0a775e90bdb1b"), looks := false }, kinds := [], alts := [], laidByText := true, laidKinds := [.data], laidTests := true, laidLooks := .later }
def SpreadLeastCardSaid : Prop := Claim7.holds Tryd.pinned (.plain (OpenSpec.ofChange spreadLeastSpec)) spreadLeastCard

/-- THE TIED CARD OF 'rillmeterlaw19.SpreadAlone'. -/
def spreadAloneCard : Claim7 := { stood := { row := spreadAloneRow, standIns := [], harness := (true, "3eadb9e4f42cbff8ff909e7820a752485281ce7b2d9c6084efb0a775e90bdb1b"), looks := false }, kinds := [], alts := [], laidByText := true, laidKinds := [.data], laidTests := true, laidLooks := .later }
def SpreadAloneCardSaid : Prop := Claim7.holds Tryd.pinned (.plain (OpenSpec.ofChange spreadAloneSpec)) spreadAloneCard

/-- THE TIED CARD OF 'rillmeterlaw19.SpreadOrder'. -/
def spreadOrderCard : Claim7 := { stood := { row := spreadOrderRow, standIns := [], harness := (true, "3eadb9e4f42cbff8ff909e7820a752485281ce7b2d9c6084efb0a775e90bdb1b"), looks := false }, kinds := [], alts := [], laidByText := true, laidKinds := [.data], laidTests := true, laidLooks := .later }
def SpreadOrderCardSaid : Prop := Claim7.holds Tryd.pinned (.plain (OpenSpec.ofChange spreadOrderSpec)) spreadOrderCard

/-- THE SECOND FORM's CARD OF 'rillmeterlaw19.SpreadTurns'. -/
def spreadTurnsUptoCard : Claim7 := { stood := { row := spreadTurnsUptoRow, standIns := [], harness := (true, "3eadb9e4f42cbff8ff909e7820a752485281ce7b2d9c6084efb0a775e90bdb1b"), looks := false }, kinds := [], alts := [], laidByText := true, laidKinds := [.data], laidTests := true, laidLooks := .later }
def SpreadTurnsUptoCardSaid : Prop := Claim7.holds Tryd.pinned (.plain (OpenSpec.upto spreadTurnsSpec)) spreadTurnsUptoCard

/-- THE SECOND FORM's CARD OF 'rillmeterlaw19.SpreadNews'. -/
def spreadNewsUptoCard : Claim7 := { stood := { row := spreadNewsUptoRow, standIns := [], harness := (true, "3eadb9e4f42cbff8ff909e7820a752485281ce7b2d9c6084efb0a775e90bdb1b"), looks := false }, kinds := [], alts := [], laidByText := true, laidKinds := [.data], laidTests := true, laidLooks := .later }
def SpreadNewsUptoCardSaid : Prop := Claim7.holds Tryd.pinned (.plain (OpenSpec.upto spreadNewsSpec)) spreadNewsUptoCard

/-- THE SECOND FORM's CARD OF 'rillmeterlaw19.SpreadSeen'. -/
def spreadSeenUptoCard : Claim7 := { stood := { row := spreadSeenUptoRow, standIns := [], harness := (true, "3eadb9e4f42cbff8ff909e7820a752485281ce7b2d9c6084efb0a775e90bdb1b"), looks := false }, kinds := [], alts := [], laidByText := true, laidKinds := [.data], laidTests := true, laidLooks := .later }
def SpreadSeenUptoCardSaid : Prop := Claim7.holds Tryd.pinned (.plain (OpenSpec.upto spreadSeenSpec)) spreadSeenUptoCard

/-- THE SECOND FORM's CARD OF 'rillmeterlaw19.SpreadLeast'. -/
def spreadLeastUptoCard : Claim7 := { stood := { row := spreadLeastUptoRow, standIns := [], harness := (true, "3eadb9e4f42cbff8ff909e7820a752485281ce7b2d9c6084efb0a775e90bdb1b"), looks := false }, kinds := [], alts := [], laidByText := true, laidKinds := [.data], laidTests := true, laidLooks := .later }
def SpreadLeastUptoCardSaid : Prop := Claim7.holds Tryd.pinned (.plain (OpenSpec.upto spreadLeastSpec)) spreadLeastUptoCard

/-- THE SECOND FORM's CARD OF 'rillmeterlaw19.SpreadAlone'. -/
def spreadAloneUptoCard : Claim7 := { stood := { row := spreadAloneUptoRow, standIns := [], harness := (true, "3eadb9e4f42cbff8ff909e7820a752485281ce7b2d9c6084efb0a775e90bdb1b"), looks := false }, kinds := [], alts := [], laidByText := true, laidKinds := [.data], laidTests := true, laidLooks := .later }
def SpreadAloneUptoCardSaid : Prop := Claim7.holds Tryd.pinned (.plain (OpenSpec.upto spreadAloneSpec)) spreadAloneUptoCard

/-- THE SECOND FORM's CARD OF 'rillmeterlaw19.SpreadOrder'. -/
def spreadOrderUptoCard : Claim7 := { stood := { row := spreadOrderUptoRow, standIns := [], harness := (true, "3eadb9e4f42cbff8ff909e7820a752485281ce7b2d9c6084efb0a775e90bdb1b"), looks := false }, kinds := [], alts := [], laidByText := true, laidKinds := [.data], laidTests := true, laidLooks := .later }
def SpreadOrderUptoCardSaid : Prop := Claim7.holds Tryd.pinned (.plain (OpenSpec.upto spreadOrderSpec)) spreadOrderUptoCard
end Rows
end Go.Proofs.YtonkhpeahbjmmaaDoor
