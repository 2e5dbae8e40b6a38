/-
  DERIVED. GIVEN WITH THE SEED: THE CARDS: each row of YtgghefjkkidaoaaDoorRows.lean that lists a variable, with what it lists TIED to the program's text (the seventh form; the later family's looks); each row that meets fmt, with fmt's text TOLD by the authors' own Lean function (tested against real Go, not proved from fmt's source: count such statements apart). THE CARD IS WHAT COUNTS. Prove the row's statement (the work); the ties are given (YtgghefjkkidaoaaDoorTie.lean); close each card by the builder's one call (the guide's Derived/Test/ToyasCard.lean, 'card_holds'). Laid BY PROGRAM, IN A SANDBOX (cutbox-door.mjs). By AI agents, Wed Nov 11 2026. No macro, syntax, notation, axiom, sorry.
-/
import Derived.Test.YtgghefjkkidaoaaDoorRows
import GoSem.ClaimSeven
namespace Go.Proofs.YtgghefjkkidaoaaDoor
namespace Rows

/-- THE TIED CARD OF 'laws.FnExactTreeSum'. -/
def fnExactTreeSumCard : Claim7 := { stood := { row := fnExactTreeSumRow, standIns := [], harness := (true, "e40f831ee206b88cd7d33616fdec02841275381d53de222a9c849b42a92e4f04"), looks := false }, kinds := [], alts := [], laidByText := true, laidKinds := [.data, .pinned], laidTests := true, laidLooks := .later }
def FnExactTreeSumCardSaid : Prop := Claim7.holds Tryd.pinned (.plain (OpenSpec.ofChange fnExactTreeSumSpec)) fnExactTreeSumCard

/-- THE TIED CARD OF 'laws.FnExactPackTree'. -/
def fnExactPackTreeCard : Claim7 := { stood := { row := fnExactPackTreeRow, standIns := [], harness := (true, "e40f831ee206b88cd7d33616fdec02841275381d53de222a9c849b42a92e4f04"), looks := false }, kinds := [], alts := [], laidByText := true, laidKinds := [.data, .pinned], laidTests := true, laidLooks := .later }
def FnExactPackTreeCardSaid : Prop := Claim7.holds Tryd.pinned (.plain (OpenSpec.ofChange fnExactPackTreeSpec)) fnExactPackTreeCard

/-- THE TIED CARD OF 'laws.FnExactBelow'. -/
def fnExactBelowCard : Claim7 := { stood := { row := fnExactBelowRow, standIns := [], harness := (true, "e40f831ee206b88cd7d33616fdec02841275381d53de222a9c849b42a92e4f04"), looks := false }, kinds := [], alts := [], laidByText := true, laidKinds := [.data, .pinned], laidTests := true, laidLooks := .later }
def FnExactBelowCardSaid : Prop := Claim7.holds Tryd.pinned (.plain (OpenSpec.ofChange fnExactBelowSpec)) fnExactBelowCard

/-- THE TIED CARD OF 'laws.FnExactCutEntry'. -/
def fnExactCutEntryCard : Claim7 := { stood := { row := fnExactCutEntryRow, standIns := [], harness := (true, "e40f831ee206b88cd7d33616fdec02841275381d53de222a9c849b42a92e4f04"), looks := false }, kinds := [], alts := [], laidByText := true, laidKinds := [.data, .pinned], laidTests := true, laidLooks := .later }
def FnExactCutEntryCardSaid : Prop := Claim7.holds Tryd.pinned (.plain (OpenSpec.ofChange fnExactCutEntrySpec)) fnExactCutEntryCard

/-- THE TIED CARD OF 'laws.FnExactUnpackTree'. -/
def fnExactUnpackTreeCard : Claim7 := { stood := { row := fnExactUnpackTreeRow, standIns := [], harness := (true, "e40f831ee206b88cd7d33616fdec02841275381d53de222a9c849b42a92e4f04"), looks := false }, kinds := [], alts := [], laidByText := true, laidKinds := [.data, .pinned], laidTests := true, laidLooks := .later }
def FnExactUnpackTreeCardSaid : Prop := Claim7.holds Tryd.pinned (.plain (OpenSpec.ofChange fnExactUnpackTreeSpec)) fnExactUnpackTreeCard

/-- THE TIED CARD OF 'laws.FnExactReplace'. -/
def fnExactReplaceCard : Claim7 := { stood := { row := fnExactReplaceRow, standIns := [], harness := (true, "e40f831ee206b88cd7d33616fdec02841275381d53de222a9c849b42a92e4f04"), looks := false }, kinds := [], alts := [], laidByText := true, laidKinds := [.data, .pinned], laidTests := true, laidLooks := .later }
def FnExactReplaceCardSaid : Prop := Claim7.holds Tryd.pinned (.plain (OpenSpec.ofChange fnExactReplaceSpec)) fnExactReplaceCard

/-- THE TIED CARD OF 'laws.FnExactPutEntry'. -/
def fnExactPutEntryCard : Claim7 := { stood := { row := fnExactPutEntryRow, standIns := [], harness := (true, "e40f831ee206b88cd7d33616fdec02841275381d53de222a9c849b42a92e4f04"), looks := false }, kinds := [], alts := [], laidByText := true, laidKinds := [.data, .pinned], laidTests := true, laidLooks := .later }
def FnExactPutEntryCardSaid : Prop := Claim7.holds Tryd.pinned (.plain (OpenSpec.ofChange fnExactPutEntrySpec)) fnExactPutEntryCard

/-- THE TIED CARD OF 'laws.FnTreeBack'. -/
def fnTreeBackCard : Claim7 := { stood := { row := fnTreeBackRow, standIns := [], harness := (true, "e40f831ee206b88cd7d33616fdec02841275381d53de222a9c849b42a92e4f04"), looks := false }, kinds := [], alts := [], laidByText := true, laidKinds := [.data, .pinned], laidTests := true, laidLooks := .later }
def FnTreeBackCardSaid : Prop := Claim7.holds Tryd.pinned (.plain (OpenSpec.ofChange fnTreeBackSpec)) fnTreeBackCard

/-- THE SECOND FORM's CARD OF 'laws.FnExactTreeSum'. -/
def fnExactTreeSumUptoCard : Claim7 := { stood := { row := fnExactTreeSumUptoRow, standIns := [], harness := (true, "e40f831ee206b88cd7d33616fdec02841275381d53de222a9c849b42a92e4f04"), looks := false }, kinds := [], alts := [], laidByText := true, laidKinds := [.data, .pinned], laidTests := true, laidLooks := .later }
def FnExactTreeSumUptoCardSaid : Prop := Claim7.holds Tryd.pinned (.plain (OpenSpec.upto fnExactTreeSumSpec)) fnExactTreeSumUptoCard

/-- THE SECOND FORM's CARD OF 'laws.FnExactPackTree'. -/
def fnExactPackTreeUptoCard : Claim7 := { stood := { row := fnExactPackTreeUptoRow, standIns := [], harness := (true, "e40f831ee206b88cd7d33616fdec02841275381d53de222a9c849b42a92e4f04"), looks := false }, kinds := [], alts := [], laidByText := true, laidKinds := [.data, .pinned], laidTests := true, laidLooks := .later }
def FnExactPackTreeUptoCardSaid : Prop := Claim7.holds Tryd.pinned (.plain (OpenSpec.upto fnExactPackTreeSpec)) fnExactPackTreeUptoCard

/-- THE SECOND FORM's CARD OF 'laws.FnExactBelow'. -/
def fnExactBelowUptoCard : Claim7 := { stood := { row := fnExactBelowUptoRow, standIns := [], harness := (true, "e40f831ee206b88cd7d33616fdec02841275381d53de222a9c849b42a92e4f04"), looks := false }, kinds := [], alts := [], laidByText := true, laidKinds := [.data, .pinned], laidTests := true, laidLooks := .later }
def FnExactBelowUptoCardSaid : Prop := Claim7.holds Tryd.pinned (.plain (OpenSpec.upto fnExactBelowSpec)) fnExactBelowUptoCard

/-- THE SECOND FORM's CARD OF 'laws.FnExactCutEntry'. -/
def fnExactCutEntryUptoCard : Claim7 := { stood := { row := fnExactCutEntryUptoRow, standIns := [], harness := (true, "e40f831ee206b88cd7d33616fdec02841275381d53de222a9c849b42a92e4f04"), looks := false }, kinds := [], alts := [], laidByText := true, laidKinds := [.data, .pinned], laidTests := true, laidLooks := .later }
def FnExactCutEntryUptoCardSaid : Prop := Claim7.holds Tryd.pinned (.plain (OpenSpec.upto fnExactCutEntrySpec)) fnExactCutEntryUptoCard

/-- THE SECOND FORM's CARD OF 'laws.FnExactUnpackTree'. -/
def fnExactUnpackTreeUptoCard : Claim7 := { stood := { row := fnExactUnpackTreeUptoRow, standIns := [], harness := (true, "e40f831ee206b88cd7d33616fdec02841275381d53de222a9c849b42a92e4f04"), looks := false }, kinds := [], alts := [], laidByText := true, laidKinds := [.data, .pinned], laidTests := true, laidLooks := .later }
def FnExactUnpackTreeUptoCardSaid : Prop := Claim7.holds Tryd.pinned (.plain (OpenSpec.upto fnExactUnpackTreeSpec)) fnExactUnpackTreeUptoCard

/-- THE SECOND FORM's CARD OF 'laws.FnExactReplace'. -/
def fnExactReplaceUptoCard : Claim7 := { stood := { row := fnExactReplaceUptoRow, standIns := [], harness := (true, "e40f831ee206b88cd7d33616fdec02841275381d53de222a9c849b42a92e4f04"), looks := false }, kinds := [], alts := [], laidByText := true, laidKinds := [.data, .pinned], laidTests := true, laidLooks := .later }
def FnExactReplaceUptoCardSaid : Prop := Claim7.holds Tryd.pinned (.plain (OpenSpec.upto fnExactReplaceSpec)) fnExactReplaceUptoCard

/-- THE SECOND FORM's CARD OF 'laws.FnExactPutEntry'. -/
def fnExactPutEntryUptoCard : Claim7 := { stood := { row := fnExactPutEntryUptoRow, standIns := [], harness := (true, "e40f831ee206b88cd7d33616fdec02841275381d53de222a9c849b42a92e4f04"), looks := false }, kinds := [], alts := [], laidByText := true, laidKinds := [.data, .pinned], laidTests := true, laidLooks := .later }
def FnExactPutEntryUptoCardSaid : Prop := Claim7.holds Tryd.pinned (.plain (OpenSpec.upto fnExactPutEntrySpec)) fnExactPutEntryUptoCard

/-- THE SECOND FORM's CARD OF 'laws.FnTreeBack'. -/
def fnTreeBackUptoCard : Claim7 := { stood := { row := fnTreeBackUptoRow, standIns := [], harness := (true, "e40f831ee206b88cd7d33616fdec02841275381d53de222a9c849b42a92e4f04"), looks := false }, kinds := [], alts := [], laidByText := true, laidKinds := [.data, .pinned], laidTests := true, laidLooks := .later }
def FnTreeBackUptoCardSaid : Prop := Claim7.holds Tryd.pinned (.plain (OpenSpec.upto fnTreeBackSpec)) fnTreeBackUptoCard
end Rows
end Go.Proofs.YtgghefjkkidaoaaDoor
