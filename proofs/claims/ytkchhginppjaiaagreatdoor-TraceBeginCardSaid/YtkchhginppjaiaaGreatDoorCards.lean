/-
  DERIVED. GIVEN WITH THE SEED: THE CARDS: each row of YtkchhginppjaiaaGreatDoorRows.lean that lists a variable, with what it lists TIED to the program's text (the seventh form; the later family's looks); each row that meets fmt, with fmt's text TOLD by the authors' own Lean function (tested against real Go, not proved from fmt's source: count such statements apart). THE CARD IS WHAT COUNTS. Prove the row's statement (the work); the ties are given (YtkchhginppjaiaaGreatDoorTie.lean); close each card by the builder's one call (the guide's Derived/Test/ToyasCard.lean, 'card_holds'). Laid BY PROGRAM, IN A SANDBOX (cutbox-door.mjs). By AI agents, Wed Nov 11 2026. No macro, syntax, notation, axiom, sorry.
-/
import Derived.Test.YtkchhginppjaiaaGreatDoorRows
import GoSem.ClaimSeven
namespace Go.Proofs.YtkchhginppjaiaaGreatDoor
namespace Rows

/-- THE TIED CARD OF 'kingpostlaw18.TraceBegin'. -/
def traceBeginCard : Claim7 := { stood := { row := traceBeginRow, standIns := [], harness := (true, "0127020377a60ebf9fd03bcf3b0d73c13469f337ecef43202919ac6a927368d2"), looks := true }, kinds := [], alts := [], laidByText := true, laidKinds := [.data, .data, .data, .data, .sentinel, .sentinel, .data, .pinned], laidTests := true, laidLooks := .later }
def TraceBeginCardSaid : Prop := Claim7.holds Tryz.pinned (.plain (OpenSpec.ofChange traceBeginSpec)) traceBeginCard

/-- THE SECOND FORM's CARD OF 'kingpostlaw18.TraceBegin'. -/
def traceBeginUptoCard : Claim7 := { stood := { row := traceBeginUptoRow, standIns := [], harness := (true, "0127020377a60ebf9fd03bcf3b0d73c13469f337ecef43202919ac6a927368d2"), looks := true }, kinds := [], alts := [], laidByText := true, laidKinds := [.data, .data, .data, .data, .sentinel, .sentinel, .data, .pinned], laidTests := true, laidLooks := .later }
def TraceBeginUptoCardSaid : Prop := Claim7.holds Tryz.pinned (.plain (OpenSpec.upto traceBeginSpec)) traceBeginUptoCard
end Rows
end Go.Proofs.YtkchhginppjaiaaGreatDoor
