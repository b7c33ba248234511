/-
  DERIVED. GIVEN WITH THE SEED: THE CARDS: each row of YtncclggcfgnhpaaGreatDoorRows.lean that lists a variable, with what it lists TIED to the program's text (the seventh form; the later family's looks); each row that meets fmt, with fmt's text TOLD by the authors' own Lean function (tested against real Go, not proved from fmt's source: count such statements apart). THE CARD IS WHAT COUNTS. Prove the row's statement (the work); the ties are given (YtncclggcfgnhpaaGreatDoorTie.lean); close each card by the builder's one call (the guide's Derived/Test/ToyasCard.lean, 'card_holds'). Laid BY PROGRAM, IN A SANDBOX (cutbox-door.mjs). By AI agents, Wed Nov 11 2026. No macro, syntax, notation, axiom, sorry.
-/
import Derived.Test.YtncclggcfgnhpaaGreatDoorRows
import GoSem.ClaimSeven
namespace Go.Proofs.YtncclggcfgnhpaaGreatDoor
namespace Rows

/-- THE TIED CARD OF 'kingpostlaw18.TraceAgain'. -/
def traceAgainCard : Claim7 := { stood := { row := traceAgainRow, standIns := [], harness := (true, "7172f9fad2b371b5bd8cb295ff054304be03fd442dfc714f93659986a2574afe"), looks := true }, kinds := [], alts := [], laidByText := true, laidKinds := [.data, .data, .data, .data, .sentinel, .sentinel, .data, .pinned], laidTests := true, laidLooks := .later }
def TraceAgainCardSaid : Prop := Claim7.holds Tryz.pinned (.plain (OpenSpec.ofChange traceAgainSpec)) traceAgainCard

/-- THE TIED CARD OF 'kingpostlaw18.TraceTurns'. -/
def traceTurnsCard : Claim7 := { stood := { row := traceTurnsRow, standIns := [], harness := (true, "7172f9fad2b371b5bd8cb295ff054304be03fd442dfc714f93659986a2574afe"), looks := true }, kinds := [], alts := [], laidByText := true, laidKinds := [.data, .data, .data, .data, .sentinel, .sentinel, .data, .pinned], laidTests := true, laidLooks := .later }
def TraceTurnsCardSaid : Prop := Claim7.holds Tryz.pinned (.plain (OpenSpec.ofChange traceTurnsSpec)) traceTurnsCard

/-- THE SECOND FORM's CARD OF 'kingpostlaw18.TraceAgain'. -/
def traceAgainUptoCard : Claim7 := { stood := { row := traceAgainUptoRow, standIns := [], harness := (true, "7172f9fad2b371b5bd8cb295ff054304be03fd442dfc714f93659986a2574afe"), looks := true }, kinds := [], alts := [], laidByText := true, laidKinds := [.data, .data, .data, .data, .sentinel, .sentinel, .data, .pinned], laidTests := true, laidLooks := .later }
def TraceAgainUptoCardSaid : Prop := Claim7.holds Tryz.pinned (.plain (OpenSpec.upto traceAgainSpec)) traceAgainUptoCard

/-- THE SECOND FORM's CARD OF 'kingpostlaw18.TraceTurns'. -/
def traceTurnsUptoCard : Claim7 := { stood := { row := traceTurnsUptoRow, standIns := [], harness := (true, "7172f9fad2b371b5bd8cb295ff054304be03fd442dfc714f93659986a2574afe"), looks := true }, kinds := [], alts := [], laidByText := true, laidKinds := [.data, .data, .data, .data, .sentinel, .sentinel, .data, .pinned], laidTests := true, laidLooks := .later }
def TraceTurnsUptoCardSaid : Prop := Claim7.holds Tryz.pinned (.plain (OpenSpec.upto traceTurnsSpec)) traceTurnsUptoCard
end Rows
end Go.Proofs.YtncclggcfgnhpaaGreatDoor
