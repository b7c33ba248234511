/-
  DERIVED. GIVEN WITH THE SEED: THE CARDS: each row of YtcimoodjlopdaaaGreatDoorRows.lean that lists a variable, with what it lists TIED to the program's text (the seventh form; the later family's looks); each row that meets fmt, with fmt's text TOLD by the authors' own Lean function (tested against real Go, not proved from fmt's source: count such statements apart). THE CARD IS WHAT COUNTS. Prove the row's statement (the work); the ties are given (YtcimoodjlopdaaaGreatDoorTie.lean); close each card by the builder's one call (the guide's Derived/Test/ToyasCard.lean, 'card_holds'). Laid BY PROGRAM, IN A SANDBOX (cutbox-door.mjs). By AI agents, Wed Nov 11 2026. No macro, syntax, notation, axiom, sorry.
-/
import Derived.Test.YtcimoodjlopdaaaGreatDoorRows
import GoSem.ClaimSeven
namespace Go.Proofs.YtcimoodjlopdaaaGreatDoor
namespace Rows

/-- THE TIED CARD OF 'kingpostlaw18.TraceOthers'. -/
def traceOthersCard : Claim7 := { stood := { row := traceOthersRow, standIns := [], harness := (true, "b6aa385fdeab11f5f4849291450074f413a0889395a6bdbe71862b57e7413ff4"), looks := true }, kinds := [], alts := [], laidByText := true, laidKinds := [.data, .data, .data, .data, .sentinel, .sentinel, .pinned], laidTests := true, laidLooks := .later }
def TraceOthersCardSaid : Prop := Claim7.holds Tryz.pinned (.plain (OpenSpec.ofChange traceOthersSpec)) traceOthersCard

/-- THE SECOND FORM's CARD OF 'kingpostlaw18.TraceOthers'. -/
def traceOthersUptoCard : Claim7 := { stood := { row := traceOthersUptoRow, standIns := [], harness := (true, "b6aa385fdeab11f5f4849291450074f413a0889395a6bdbe71862b57e7413ff4"), looks := true }, kinds := [], alts := [], laidByText := true, laidKinds := [.data, .data, .data, .data, .sentinel, .sentinel, .pinned], laidTests := true, laidLooks := .later }
def TraceOthersUptoCardSaid : Prop := Claim7.holds Tryz.pinned (.plain (OpenSpec.upto traceOthersSpec)) traceOthersUptoCard
end Rows
end Go.Proofs.YtcimoodjlopdaaaGreatDoor
