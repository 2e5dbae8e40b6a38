/-
  DERIVED. GIVEN WITH THE SEED: THE CARDS: each row of YthfohhpjanoimaaDoorRows.lean that lists a variable, with what it lists TIED to the program's text (the seventh form; the later family's looks); each row that meets fmt, with fmt's text TOLD by the authors' own Lean function (tested against real Go, not proved from fmt's source: count such statements apart). THE CARD IS WHAT COUNTS. Prove the row's statement (the work); the ties are given (YthfohhpjanoimaaDoorTie.lean); close each card by the builder's one call (the guide's Derived/Test/ToyasCard.lean, 'card_holds'). Laid BY PROGRAM, IN A SANDBOX (cutbox-door.mjs). By AI agents, Wed Nov 11 2026. No macro, syntax, notation, axiom, sorry.
-/
import Derived.Test.YthfohhpjanoimaaDoorRows
import GoSem.ClaimSeven
namespace Go.Proofs.YthfohhpjanoimaaDoor
namespace Rows

/-- THE TIED CARD OF 'laws.FnExactReadConstraint'. -/
def fnExactReadConstraintCard : Claim7 := { stood := { row := fnExactReadConstraintRow, standIns := [], harness := (true, "11cdcfbc5ddde170391191dd27cc05853161945e6652a1f0c76369a94a988851"), looks := true }, kinds := [], alts := [], laidByText := true, laidKinds := [.data, .data, .data, .data, .sentinel, .sentinel, .pinned], laidTests := true, laidLooks := .later }
def FnExactReadConstraintCardSaid : Prop := Claim7.holds Tryd.pinned (.plain (OpenSpec.ofChange fnExactReadConstraintSpec)) fnExactReadConstraintCard

/-- THE TIED CARD OF 'laws.FnExactMatches'. -/
def fnExactMatchesCard : Claim7 := { stood := { row := fnExactMatchesRow, standIns := [], harness := (true, "11cdcfbc5ddde170391191dd27cc05853161945e6652a1f0c76369a94a988851"), looks := true }, kinds := [], alts := [], laidByText := true, laidKinds := [.data, .data, .data, .data, .sentinel, .sentinel, .pinned], laidTests := true, laidLooks := .later }
def FnExactMatchesCardSaid : Prop := Claim7.holds Tryd.pinned (.plain (OpenSpec.ofChange fnExactMatchesSpec)) fnExactMatchesCard

/-- THE TIED CARD OF 'laws.FnExactShowConstraint'. -/
def fnExactShowConstraintCard : Claim7 := { stood := { row := fnExactShowConstraintRow, standIns := [], harness := (true, "11cdcfbc5ddde170391191dd27cc05853161945e6652a1f0c76369a94a988851"), looks := true }, kinds := [], alts := [], laidByText := true, laidKinds := [.data, .data, .data, .data, .sentinel, .sentinel, .pinned], laidTests := true, laidLooks := .later }
def FnExactShowConstraintCardSaid : Prop := Claim7.holds Tryd.pinned (.plain (OpenSpec.ofChange fnExactShowConstraintSpec)) fnExactShowConstraintCard

/-- THE SECOND FORM's CARD OF 'laws.FnExactReadConstraint'. -/
def fnExactReadConstraintUptoCard : Claim7 := { stood := { row := fnExactReadConstraintUptoRow, standIns := [], harness := (true, "11cdcfbc5ddde170391191dd27cc05853161945e6652a1f0c76369a94a988851"), looks := true }, kinds := [], alts := [], laidByText := true, laidKinds := [.data, .data, .data, .data, .sentinel, .sentinel, .pinned], laidTests := true, laidLooks := .later }
def FnExactReadConstraintUptoCardSaid : Prop := Claim7.holds Tryd.pinned (.plain (OpenSpec.upto fnExactReadConstraintSpec)) fnExactReadConstraintUptoCard

/-- THE SECOND FORM's CARD OF 'laws.FnExactMatches'. -/
def fnExactMatchesUptoCard : Claim7 := { stood := { row := fnExactMatchesUptoRow, standIns := [], harness := (true, "11cdcfbc5ddde170391191dd27cc05853161945e6652a1f0c76369a94a988851"), looks := true }, kinds := [], alts := [], laidByText := true, laidKinds := [.data, .data, .data, .data, .sentinel, .sentinel, .pinned], laidTests := true, laidLooks := .later }
def FnExactMatchesUptoCardSaid : Prop := Claim7.holds Tryd.pinned (.plain (OpenSpec.upto fnExactMatchesSpec)) fnExactMatchesUptoCard

/-- THE SECOND FORM's CARD OF 'laws.FnExactShowConstraint'. -/
def fnExactShowConstraintUptoCard : Claim7 := { stood := { row := fnExactShowConstraintUptoRow, standIns := [], harness := (true, "11cdcfbc5ddde170391191dd27cc05853161945e6652a1f0c76369a94a988851"), looks := true }, kinds := [], alts := [], laidByText := true, laidKinds := [.data, .data, .data, .data, .sentinel, .sentinel, .pinned], laidTests := true, laidLooks := .later }
def FnExactShowConstraintUptoCardSaid : Prop := Claim7.holds Tryd.pinned (.plain (OpenSpec.upto fnExactShowConstraintSpec)) fnExactShowConstraintUptoCard
end Rows
end Go.Proofs.YthfohhpjanoimaaDoor
