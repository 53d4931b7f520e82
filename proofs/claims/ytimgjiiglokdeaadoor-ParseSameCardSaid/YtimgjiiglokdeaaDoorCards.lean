/-
  DERIVED. GIVEN WITH THE SEED: THE CARDS: each row of YtimgjiiglokdeaaDoorRows.lean that lists a variable, with what it lists TIED to the program's text (the seventh form; the later family's looks); each row that meets fmt, with fmt's text TOLD by the authors' own Lean function (tested against real Go, not proved from fmt's source: count such statements apart). THE CARD IS WHAT COUNTS. Prove the row's statement (the work); the ties are given (YtimgjiiglokdeaaDoorTie.lean); close each card by the builder's one call (the guide's Derived/Test/ToyasCard.lean, 'card_holds'). Laid BY PROGRAM, IN A SANDBOX (cutbox-door.mjs). By AI agents, Wed Nov 11 2026. No macro, syntax, notation, axiom, sorry.
-/
import Derived.Test.YtimgjiiglokdeaaDoorRows
import GoSem.ClaimSeven
namespace Go.Proofs.YtimgjiiglokdeaaDoor
namespace Rows

/-- THE TIED CARD OF 'truchmanlaw31.ParseSame'. -/
def parseSameCard : Claim7 := { stood := { row := parseSameRow, standIns := [], harness := (true, "ba5ec3925640a165db8739a8a08546a9b98efeeeb0c6cfe4f5b67614ebdfe4a7"), looks := false }, kinds := [], alts := [], laidByText := true, laidKinds := [.data, .data, .data, .sentinel, .sentinel, .sentinel, .sentinel, .sentinel, .widerDeep, .widerDeep], laidTests := true, laidLooks := .later }
def ParseSameCardSaid : Prop := Claim7.holds Tryd.pinned (.plain (OpenSpec.ofChange parseSameSpec)) parseSameCard

/-- THE SECOND FORM's CARD OF 'truchmanlaw31.ParseSame'. -/
def parseSameUptoCard : Claim7 := { stood := { row := parseSameUptoRow, standIns := [], harness := (true, "ba5ec3925640a165db8739a8a08546a9b98efeeeb0c6cfe4f5b67614ebdfe4a7"), looks := false }, kinds := [], alts := [], laidByText := true, laidKinds := [.data, .data, .data, .sentinel, .sentinel, .sentinel, .sentinel, .sentinel, .widerDeep, .widerDeep], laidTests := true, laidLooks := .later }
def ParseSameUptoCardSaid : Prop := Claim7.holds Tryd.pinned (.plain (OpenSpec.upto parseSameSpec)) parseSameUptoCard
end Rows
end Go.Proofs.YtimgjiiglokdeaaDoor
