/-
  DERIVED. GIVEN WITH THE SEED: THE CARDS: each row of YtngpmpmhpggpgaaGreatDoorRows.lean that lists a variable, with what it lists TIED to the program's text (the seventh form; the later family's looks); each row that meets fmt, with fmt's text TOLD by the authors' own Lean function (tested against real Go, not proved from fmt's source: count such statements apart). THE CARD IS WHAT COUNTS. Prove the row's statement (the work); the ties are given (YtngpmpmhpggpgaaGreatDoorTie.lean); close each card by the builder's one call (the guide's Derived/Test/ToyasCard.lean, 'card_holds'). Laid BY PROGRAM, IN A SANDBOX (cutbox-door.mjs). By AI agents, Wed Nov 11 2026. No macro, syntax, notation, axiom, sorry.
-/
import Derived.Test.YtngpmpmhpggpgaaGreatDoorRows
import GoSem.ClaimSeven
namespace Go.Proofs.YtngpmpmhpggpgaaGreatDoor
namespace Rows

/-- THE TIED CARD OF 'rillmeterlaw18.UnivAlone'. -/
def univAloneCard : Claim7 := { stood := { row := univAloneRow, standIns := [], harness := (true, "25c5f20ae8ed7c1c74325c956c190f21226ac3a0066984cc7b35185b7bda703b"), looks := false }, kinds := [], alts := [], laidByText := true, laidKinds := [.data], laidTests := true, laidLooks := .later }
def UnivAloneCardSaid : Prop := Claim7.holds Tryz.pinned (.plain (OpenSpec.ofChange univAloneSpec)) univAloneCard

/-- THE TIED CARD OF 'rillmeterlaw18.UnivNews'. -/
def univNewsCard : Claim7 := { stood := { row := univNewsRow, standIns := [], harness := (true, "25c5f20ae8ed7c1c74325c956c190f21226ac3a0066984cc7b35185b7bda703b"), looks := false }, kinds := [], alts := [], laidByText := true, laidKinds := [.data], laidTests := true, laidLooks := .later }
def UnivNewsCardSaid : Prop := Claim7.holds Tryz.pinned (.plain (OpenSpec.ofChange univNewsSpec)) univNewsCard

/-- THE TIED CARD OF 'rillmeterlaw18.UnivSums'. -/
def univSumsCard : Claim7 := { stood := { row := univSumsRow, standIns := [], harness := (true, "25c5f20ae8ed7c1c74325c956c190f21226ac3a0066984cc7b35185b7bda703b"), looks := false }, kinds := [], alts := [], laidByText := true, laidKinds := [.data], laidTests := true, laidLooks := .later }
def UnivSumsCardSaid : Prop := Claim7.holds Tryz.pinned (.plain (OpenSpec.ofChange univSumsSpec)) univSumsCard

/-- THE TIED CARD OF 'rillmeterlaw18.UnivTurns'. -/
def univTurnsCard : Claim7 := { stood := { row := univTurnsRow, standIns := [], harness := (true, "25c5f20ae8ed7c1c74325c956c190f21226ac3a0066984cc7b35185b7bda703b"), looks := false }, kinds := [], alts := [], laidByText := true, laidKinds := [.data], laidTests := true, laidLooks := .later }
def UnivTurnsCardSaid : Prop := Claim7.holds Tryz.pinned (.plain (OpenSpec.ofChange univTurnsSpec)) univTurnsCard

/-- THE SECOND FORM's CARD OF 'rillmeterlaw18.UnivAlone'. -/
def univAloneUptoCard : Claim7 := { stood := { row := univAloneUptoRow, standIns := [], harness := (true, "25c5f20ae8ed7c1c74325c956c190f21226ac3a0066984cc7b35185b7bda703b"), looks := false }, kinds := [], alts := [], laidByText := true, laidKinds := [.data], laidTests := true, laidLooks := .later }
def UnivAloneUptoCardSaid : Prop := Claim7.holds Tryz.pinned (.plain (OpenSpec.upto univAloneSpec)) univAloneUptoCard

/-- THE SECOND FORM's CARD OF 'rillmeterlaw18.UnivNews'. -/
def univNewsUptoCard : Claim7 := { stood := { row := univNewsUptoRow, standIns := [], harness := (true, "25c5f20ae8ed7c1c74325c956c190f21226ac3a0066984cc7b35185b7bda703b"), looks := false }, kinds := [], alts := [], laidByText := true, laidKinds := [.data], laidTests := true, laidLooks := .later }
def UnivNewsUptoCardSaid : Prop := Claim7.holds Tryz.pinned (.plain (OpenSpec.upto univNewsSpec)) univNewsUptoCard

/-- THE SECOND FORM's CARD OF 'rillmeterlaw18.UnivSums'. -/
def univSumsUptoCard : Claim7 := { stood := { row := univSumsUptoRow, standIns := [], harness := (true, "25c5f20ae8ed7c1c74325c956c190f21226ac3a0066984cc7b35185b7bda703b"), looks := false }, kinds := [], alts := [], laidByText := true, laidKinds := [.data], laidTests := true, laidLooks := .later }
def UnivSumsUptoCardSaid : Prop := Claim7.holds Tryz.pinned (.plain (OpenSpec.upto univSumsSpec)) univSumsUptoCard

/-- THE SECOND FORM's CARD OF 'rillmeterlaw18.UnivTurns'. -/
def univTurnsUptoCard : Claim7 := { stood := { row := univTurnsUptoRow, standIns := [], harness := (true, "25c5f20ae8ed7c1c74325c956c190f21226ac3a0066984cc7b35185b7bda703b"), looks := false }, kinds := [], alts := [], laidByText := true, laidKinds := [.data], laidTests := true, laidLooks := .later }
def UnivTurnsUptoCardSaid : Prop := Claim7.holds Tryz.pinned (.plain (OpenSpec.upto univTurnsSpec)) univTurnsUptoCard
end Rows
end Go.Proofs.YtngpmpmhpggpgaaGreatDoor
