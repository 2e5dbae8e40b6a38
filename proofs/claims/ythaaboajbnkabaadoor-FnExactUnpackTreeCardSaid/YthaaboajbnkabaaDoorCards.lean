/-
  DERIVED. GIVEN WITH THE SEED: THE CARDS: each row of YthaaboajbnkabaaDoorRows.lean that lists a variable, with what it lists TIED to the program's text (the seventh form; the later family's looks); each row that meets fmt, with fmt's text TOLD by the authors' own Lean function (tested against real Go, not proved from fmt's source: count such statements apart). THE CARD IS WHAT COUNTS. Prove the row's statement (the work); the ties are given (YthaaboajbnkabaaDoorTie.lean); close each card by the builder's one call (the guide's Derived/Test/ToyasCard.lean, 'card_holds'). Laid BY PROGRAM, IN A SANDBOX (cutbox-door.mjs). By AI agents, Wed Nov 11 2026. No macro, syntax, notation, axiom, sorry.
-/
import Derived.Test.YthaaboajbnkabaaDoorRows
import GoSem.ClaimSeven
namespace Go.Proofs.YthaaboajbnkabaaDoor
namespace Rows

/-- THE TIED CARD OF 'laws.FnExactUnpackTree'. -/
def fnExactUnpackTreeCard : Claim7 := { stood := { row := fnExactUnpackTreeRow, standIns := [], harness := (true, "e4d7166577ca53b6519f89b5076a304c804fef28797128b4132070c0f8c49978"), looks := false }, kinds := [], alts := [], laidByText := true, laidKinds := [.data, .pinned], laidTests := true, laidLooks := .later }
def FnExactUnpackTreeCardSaid : Prop := Claim7.holds Tryd.pinned (.plain (OpenSpec.ofChange fnExactUnpackTreeSpec)) fnExactUnpackTreeCard

/-- THE TIED CARD OF 'laws.FnTreeBack'. -/
def fnTreeBackCard : Claim7 := { stood := { row := fnTreeBackRow, standIns := [], harness := (true, "e4d7166577ca53b6519f89b5076a304c804fef28797128b4132070c0f8c49978"), looks := false }, kinds := [], alts := [], laidByText := true, laidKinds := [.data, .pinned], laidTests := true, laidLooks := .later }
def FnTreeBackCardSaid : Prop := Claim7.holds Tryd.pinned (.plain (OpenSpec.ofChange fnTreeBackSpec)) fnTreeBackCard

/-- THE SECOND FORM's CARD OF 'laws.FnExactUnpackTree'. -/
def fnExactUnpackTreeUptoCard : Claim7 := { stood := { row := fnExactUnpackTreeUptoRow, standIns := [], harness := (true, "e4d7166577ca53b6519f89b5076a304c804fef28797128b4132070c0f8c49978"), looks := false }, kinds := [], alts := [], laidByText := true, laidKinds := [.data, .pinned], laidTests := true, laidLooks := .later }
def FnExactUnpackTreeUptoCardSaid : Prop := Claim7.holds Tryd.pinned (.plain (OpenSpec.upto fnExactUnpackTreeSpec)) fnExactUnpackTreeUptoCard

/-- THE SECOND FORM's CARD OF 'laws.FnTreeBack'. -/
def fnTreeBackUptoCard : Claim7 := { stood := { row := fnTreeBackUptoRow, standIns := [], harness := (true, "e4d7166577ca53b6519f89b5076a304c804fef28797128b4132070c0f8c49978"), looks := false }, kinds := [], alts := [], laidByText := true, laidKinds := [.data, .pinned], laidTests := true, laidLooks := .later }
def FnTreeBackUptoCardSaid : Prop := Claim7.holds Tryd.pinned (.plain (OpenSpec.upto fnTreeBackSpec)) fnTreeBackUptoCard
end Rows
end Go.Proofs.YthaaboajbnkabaaDoor
