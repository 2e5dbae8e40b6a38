/-
  DERIVED. GIVEN WITH THE SEED: THE CARDS: each row of YtgknoemegejlkaaDoorRows.lean that lists a variable, with what it lists TIED to the program's text (the seventh form; the later family's looks); each row that meets fmt, with fmt's text TOLD by the authors' own Lean function (tested against real Go, not proved from fmt's source: count such statements apart). THE CARD IS WHAT COUNTS. Prove the row's statement (the work); the ties are given (YtgknoemegejlkaaDoorTie.lean); close each card by the builder's one call (the guide's Derived/Test/ToyasCard.lean, 'card_holds'). Laid BY PROGRAM, IN A SANDBOX (cutbox-door.mjs). By AI agents, Wed Nov 11 2026. No macro, syntax, notation, axiom, sorry.
-/
import Derived.Test.YtgknoemegejlkaaDoorRows
import GoSem.ClaimSeven
namespace Go.Proofs.YtgknoemegejlkaaDoor
namespace Rows

/-- THE TIED CARD OF 'laws.FnVersionOrder'. -/
def fnVersionOrderCard : Claim7 := { stood := { row := fnVersionOrderRow, standIns := [], harness := (true, "28aa9b248dede69cef12709b54f0f0726e5bc0810fd8acc1685b0be65acfd8b4"), looks := true }, kinds := [], alts := [], laidByText := true, laidKinds := [.data, .data, .data, .sentinel, .sentinel], laidTests := true, laidLooks := .later }
def FnVersionOrderCardSaid : Prop := Claim7.holds Tryd.pinned (.plain (OpenSpec.ofChange fnVersionOrderSpec)) fnVersionOrderCard

/-- THE TIED CARD OF 'laws.FnExactSortVersions'. -/
def fnExactSortVersionsCard : Claim7 := { stood := { row := fnExactSortVersionsRow, standIns := [], harness := (true, "28aa9b248dede69cef12709b54f0f0726e5bc0810fd8acc1685b0be65acfd8b4"), looks := true }, kinds := [], alts := [], laidByText := true, laidKinds := [.data, .data, .data, .sentinel, .sentinel], laidTests := true, laidLooks := .later }
def FnExactSortVersionsCardSaid : Prop := Claim7.holds Tryd.pinned (.plain (OpenSpec.ofChange fnExactSortVersionsSpec)) fnExactSortVersionsCard

/-- THE TIED CARD OF 'laws.FnExactReadConstraint'. -/
def fnExactReadConstraintCard : Claim7 := { stood := { row := fnExactReadConstraintRow, standIns := [], harness := (true, "28aa9b248dede69cef12709b54f0f0726e5bc0810fd8acc1685b0be65acfd8b4"), looks := true }, kinds := [], alts := [], laidByText := true, laidKinds := [.data, .data, .data, .data, .sentinel, .sentinel, .pinned], laidTests := true, laidLooks := .later }
def FnExactReadConstraintCardSaid : Prop := Claim7.holds Tryd.pinned (.plain (OpenSpec.ofChange fnExactReadConstraintSpec)) fnExactReadConstraintCard

/-- THE TIED CARD OF 'laws.FnExactMatches'. -/
def fnExactMatchesCard : Claim7 := { stood := { row := fnExactMatchesRow, standIns := [], harness := (true, "28aa9b248dede69cef12709b54f0f0726e5bc0810fd8acc1685b0be65acfd8b4"), looks := true }, kinds := [], alts := [], laidByText := true, laidKinds := [.data, .data, .data, .data, .sentinel, .sentinel, .pinned], laidTests := true, laidLooks := .later }
def FnExactMatchesCardSaid : Prop := Claim7.holds Tryd.pinned (.plain (OpenSpec.ofChange fnExactMatchesSpec)) fnExactMatchesCard

/-- THE TIED CARD OF 'laws.FnExactShowConstraint'. -/
def fnExactShowConstraintCard : Claim7 := { stood := { row := fnExactShowConstraintRow, standIns := [], harness := (true, "28aa9b248dede69cef12709b54f0f0726e5bc0810fd8acc1685b0be65acfd8b4"), looks := true }, kinds := [], alts := [], laidByText := true, laidKinds := [.data, .data, .data, .data, .sentinel, .sentinel, .pinned], laidTests := true, laidLooks := .later }
def FnExactShowConstraintCardSaid : Prop := Claim7.holds Tryd.pinned (.plain (OpenSpec.ofChange fnExactShowConstraintSpec)) fnExactShowConstraintCard

/-- THE TIED CARD OF 'laws.FnExactLockText'. -/
def fnExactLockTextCard : Claim7 := { stood := { row := fnExactLockTextRow, standIns := [], harness := (true, "28aa9b248dede69cef12709b54f0f0726e5bc0810fd8acc1685b0be65acfd8b4"), looks := true }, kinds := [], alts := [], laidByText := true, laidKinds := [.data, .data, .data, .sentinel, .sentinel], laidTests := true, laidLooks := .later }
def FnExactLockTextCardSaid : Prop := Claim7.holds Tryd.pinned (.plain (OpenSpec.ofChange fnExactLockTextSpec)) fnExactLockTextCard

/-- THE TIED CARD OF 'laws.FnExactReadLock'. -/
def fnExactReadLockCard : Claim7 := { stood := { row := fnExactReadLockRow, standIns := [], harness := (true, "28aa9b248dede69cef12709b54f0f0726e5bc0810fd8acc1685b0be65acfd8b4"), looks := true }, kinds := [], alts := [], laidByText := true, laidKinds := [.data, .data, .data, .data, .sentinel, .sentinel, .pinned], laidTests := true, laidLooks := .later }
def FnExactReadLockCardSaid : Prop := Claim7.holds Tryd.pinned (.plain (OpenSpec.ofChange fnExactReadLockSpec)) fnExactReadLockCard

/-- THE SECOND FORM's CARD OF 'laws.FnVersionOrder'. -/
def fnVersionOrderUptoCard : Claim7 := { stood := { row := fnVersionOrderUptoRow, standIns := [], harness := (true, "28aa9b248dede69cef12709b54f0f0726e5bc0810fd8acc1685b0be65acfd8b4"), looks := true }, kinds := [], alts := [], laidByText := true, laidKinds := [.data, .data, .data, .sentinel, .sentinel], laidTests := true, laidLooks := .later }
def FnVersionOrderUptoCardSaid : Prop := Claim7.holds Tryd.pinned (.plain (OpenSpec.upto fnVersionOrderSpec)) fnVersionOrderUptoCard

/-- THE SECOND FORM's CARD OF 'laws.FnExactSortVersions'. -/
def fnExactSortVersionsUptoCard : Claim7 := { stood := { row := fnExactSortVersionsUptoRow, standIns := [], harness := (true, "28aa9b248dede69cef12709b54f0f0726e5bc0810fd8acc1685b0be65acfd8b4"), looks := true }, kinds := [], alts := [], laidByText := true, laidKinds := [.data, .data, .data, .sentinel, .sentinel], laidTests := true, laidLooks := .later }
def FnExactSortVersionsUptoCardSaid : Prop := Claim7.holds Tryd.pinned (.plain (OpenSpec.upto fnExactSortVersionsSpec)) fnExactSortVersionsUptoCard

/-- THE SECOND FORM's CARD OF 'laws.FnExactReadConstraint'. -/
def fnExactReadConstraintUptoCard : Claim7 := { stood := { row := fnExactReadConstraintUptoRow, standIns := [], harness := (true, "28aa9b248dede69cef12709b54f0f0726e5bc0810fd8acc1685b0be65acfd8b4"), looks := true }, kinds := [], alts := [], laidByText := true, laidKinds := [.data, .data, .data, .data, .sentinel, .sentinel, .pinned], laidTests := true, laidLooks := .later }
def FnExactReadConstraintUptoCardSaid : Prop := Claim7.holds Tryd.pinned (.plain (OpenSpec.upto fnExactReadConstraintSpec)) fnExactReadConstraintUptoCard

/-- THE SECOND FORM's CARD OF 'laws.FnExactMatches'. -/
def fnExactMatchesUptoCard : Claim7 := { stood := { row := fnExactMatchesUptoRow, standIns := [], harness := (true, "28aa9b248dede69cef12709b54f0f0726e5bc0810fd8acc1685b0be65acfd8b4"), looks := true }, kinds := [], alts := [], laidByText := true, laidKinds := [.data, .data, .data, .data, .sentinel, .sentinel, .pinned], laidTests := true, laidLooks := .later }
def FnExactMatchesUptoCardSaid : Prop := Claim7.holds Tryd.pinned (.plain (OpenSpec.upto fnExactMatchesSpec)) fnExactMatchesUptoCard

/-- THE SECOND FORM's CARD OF 'laws.FnExactShowConstraint'. -/
def fnExactShowConstraintUptoCard : Claim7 := { stood := { row := fnExactShowConstraintUptoRow, standIns := [], harness := (true, "28aa9b248dede69cef12709b54f0f0726e5bc0810fd8acc1685b0be65acfd8b4"), looks := true }, kinds := [], alts := [], laidByText := true, laidKinds := [.data, .data, .data, .data, .sentinel, .sentinel, .pinned], laidTests := true, laidLooks := .later }
def FnExactShowConstraintUptoCardSaid : Prop := Claim7.holds Tryd.pinned (.plain (OpenSpec.upto fnExactShowConstraintSpec)) fnExactShowConstraintUptoCard

/-- THE SECOND FORM's CARD OF 'laws.FnExactLockText'. -/
def fnExactLockTextUptoCard : Claim7 := { stood := { row := fnExactLockTextUptoRow, standIns := [], harness := (true, "28aa9b248dede69cef12709b54f0f0726e5bc0810fd8acc1685b0be65acfd8b4"), looks := true }, kinds := [], alts := [], laidByText := true, laidKinds := [.data, .data, .data, .sentinel, .sentinel], laidTests := true, laidLooks := .later }
def FnExactLockTextUptoCardSaid : Prop := Claim7.holds Tryd.pinned (.plain (OpenSpec.upto fnExactLockTextSpec)) fnExactLockTextUptoCard

/-- THE SECOND FORM's CARD OF 'laws.FnExactReadLock'. -/
def fnExactReadLockUptoCard : Claim7 := { stood := { row := fnExactReadLockUptoRow, standIns := [], harness := (true, "28aa9b248dede69cef12709b54f0f0726e5bc0810fd8acc1685b0be65acfd8b4"), looks := true }, kinds := [], alts := [], laidByText := true, laidKinds := [.data, .data, .data, .data, .sentinel, .sentinel, .pinned], laidTests := true, laidLooks := .later }
def FnExactReadLockUptoCardSaid : Prop := Claim7.holds Tryd.pinned (.plain (OpenSpec.upto fnExactReadLockSpec)) fnExactReadLockUptoCard
end Rows
end Go.Proofs.YtgknoemegejlkaaDoor
