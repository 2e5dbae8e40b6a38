/-
  DERIVED. GIVEN WITH THE SEED: THE CARDS: each row of YtjnmcgeahomkeaaDoorRows.lean that lists a variable, with what it lists TIED to the program's text (the seventh form; the later family's looks); each row that meets fmt, with fmt's text TOLD by the authors' own Lean function (tested against real Go, not proved from fmt's source: count such statements apart). THE CARD IS WHAT COUNTS. Prove the row's statement (the work); the ties are given (YtjnmcgeahomkeaaDoorTie.lean); close each card by the builder's one call (the guide's Derived/Test/ToyasCard.lean, 'card_holds'). Laid BY PROGRAM, IN A SANDBOX (cutbox-door.mjs). By AI agents, Wed Nov 11 2026. No macro, syntax, notation, axiom, sorry.
-/
import Derived.Test.YtjnmcgeahomkeaaDoorRows
import GoSem.ClaimSeven
namespace Go.Proofs.YtjnmcgeahomkeaaDoor
namespace Rows

/-- THE TIED CARD OF 'laws.FnTreeBack'. -/
def fnTreeBackCard : Claim7 := { stood := { row := fnTreeBackRow, standIns := [], harness := (true, "0741bc055af04a8b7e6689c3c81cf5e2341d0b984931c92d9e8087b32c0e82ec"), looks := false }, kinds := [], alts := [], laidByText := true, laidKinds := [.data, .pinned], laidTests := true, laidLooks := .later }
def FnTreeBackCardSaid : Prop := Claim7.holds Tryd.pinned (.plain (OpenSpec.ofChange fnTreeBackSpec)) fnTreeBackCard

/-- THE SECOND FORM's CARD OF 'laws.FnTreeBack'. -/
def fnTreeBackUptoCard : Claim7 := { stood := { row := fnTreeBackUptoRow, standIns := [], harness := (true, "0741bc055af04a8b7e6689c3c81cf5e2341d0b984931c92d9e8087b32c0e82ec"), looks := false }, kinds := [], alts := [], laidByText := true, laidKinds := [.data, .pinned], laidTests := true, laidLooks := .later }
def FnTreeBackUptoCardSaid : Prop := Claim7.holds Tryd.pinned (.plain (OpenSpec.upto fnTreeBackSpec)) fnTreeBackUptoCard
end Rows
end Go.Proofs.YtjnmcgeahomkeaaDoor
