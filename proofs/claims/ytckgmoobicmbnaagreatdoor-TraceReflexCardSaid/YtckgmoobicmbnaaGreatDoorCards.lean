/-
  DERIVED. GIVEN WITH THE SEED: THE CARDS: each row of YtckgmoobicmbnaaGreatDoorRows.lean that lists a variable, with what it lists TIED to the program's text (the seventh form; the later family's looks); each row that meets fmt, with fmt's text TOLD by the authors' own Lean function (tested against real Go, not proved from fmt's source: count such statements apart). THE CARD IS WHAT COUNTS. Prove the row's statement (the work); the ties are given (YtckgmoobicmbnaaGreatDoorTie.lean); close each card by the builder's one call (the guide's Derived/Test/ToyasCard.lean, 'card_holds'). Laid BY PROGRAM, IN A SANDBOX (cutbox-door.mjs). By AI agents, Wed Nov 11 2026. No macro, syntax, notation, axiom, sorry.
-/
import Derived.Test.YtckgmoobicmbnaaGreatDoorRows
import GoSem.ClaimSeven
namespace Go.Proofs.YtckgmoobicmbnaaGreatDoor
namespace Rows

/-- THE TIED CARD OF 'kingpostlaw18.TraceResults'. -/
def traceResultsCard : Claim7 := { stood := { row := traceResultsRow, standIns := [], harness := (true, "3efab431eae8fd57488032b4d617096eeefc6e19c6d259ad3eebb09448dc59aa"), looks := true }, kinds := [], alts := [], laidByText := true, laidKinds := [.data, .data, .data, .data, .sentinel, .sentinel, .data, .pinned], laidTests := true, laidLooks := .later }
def TraceResultsCardSaid : Prop := Claim7.holds Tryz.pinned (.plain (OpenSpec.ofChange traceResultsSpec)) traceResultsCard

/-- THE TIED CARD OF 'kingpostlaw18.TraceReflex'. -/
def traceReflexCard : Claim7 := { stood := { row := traceReflexRow, standIns := [], harness := (true, "3efab431eae8fd57488032b4d617096eeefc6e19c6d259ad3eebb09448dc59aa"), looks := true }, kinds := [], alts := [], laidByText := true, laidKinds := [.data, .data, .data, .data, .sentinel, .sentinel, .data, .pinned], laidTests := true, laidLooks := .later }
def TraceReflexCardSaid : Prop := Claim7.holds Tryz.pinned (.plain (OpenSpec.ofChange traceReflexSpec)) traceReflexCard

/-- THE SECOND FORM's CARD OF 'kingpostlaw18.TraceResults'. -/
def traceResultsUptoCard : Claim7 := { stood := { row := traceResultsUptoRow, standIns := [], harness := (true, "3efab431eae8fd57488032b4d617096eeefc6e19c6d259ad3eebb09448dc59aa"), looks := true }, kinds := [], alts := [], laidByText := true, laidKinds := [.data, .data, .data, .data, .sentinel, .sentinel, .data, .pinned], laidTests := true, laidLooks := .later }
def TraceResultsUptoCardSaid : Prop := Claim7.holds Tryz.pinned (.plain (OpenSpec.upto traceResultsSpec)) traceResultsUptoCard

/-- THE SECOND FORM's CARD OF 'kingpostlaw18.TraceReflex'. -/
def traceReflexUptoCard : Claim7 := { stood := { row := traceReflexUptoRow, standIns := [], harness := (true, "3efab431eae8fd57488032b4d617096eeefc6e19c6d259ad3eebb09448dc59aa"), looks := true }, kinds := [], alts := [], laidByText := true, laidKinds := [.data, .data, .data, .data, .sentinel, .sentinel, .data, .pinned], laidTests := true, laidLooks := .later }
def TraceReflexUptoCardSaid : Prop := Claim7.holds Tryz.pinned (.plain (OpenSpec.upto traceReflexSpec)) traceReflexUptoCard
end Rows
end Go.Proofs.YtckgmoobicmbnaaGreatDoor
