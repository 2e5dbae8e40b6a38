/-
  DERIVED. GIVEN WITH THE SEED: THE CARDS: each row of YtkhhkpjeafknpaaGreatDoorRows.lean that lists a variable, with what it lists TIED to the program's text (the seventh form; the later family's looks); each row that meets fmt, with fmt's text TOLD by the authors' own Lean function (tested against real Go, not proved from fmt's source: count such statements apart). THE CARD IS WHAT COUNTS. Prove the row's statement (the work); the ties are given (YtkhhkpjeafknpaaGreatDoorTie.lean); close each card by the builder's one call (the guide's Derived/Test/ToyasCard.lean, 'card_holds'). Laid BY PROGRAM, IN A SANDBOX (cutbox-door.mjs). By AI agents, Wed Nov 11 2026. No macro, syntax, notation, axiom, sorry.
-/
import Derived.Test.YtkhhkpjeafknpaaGreatDoorRows
import GoSem.ClaimSeven
namespace Go.Proofs.YtkhhkpjeafknpaaGreatDoor
namespace Rows

/-- THE TIED CARD OF 'laws.FnExactStoreOk'. -/
def fnExactStoreOkCard : Claim7 := { stood := { row := fnExactStoreOkRow, standIns := [], harness := (true, "fdecd14b5aee4d15975cbb71f6bca06425e3b8492f5592659df1109398f6c454"), looks := false }, kinds := [], alts := [], laidByText := true, laidKinds := [.data, .pinned], laidTests := true, laidLooks := .later }
def FnExactStoreOkCardSaid : Prop := Claim7.holds Tryz.pinned (.plain (OpenSpec.ofChange fnExactStoreOkSpec)) fnExactStoreOkCard

/-- THE TIED CARD OF 'laws.FnExactUsedBy'. -/
def fnExactUsedByCard : Claim7 := { stood := { row := fnExactUsedByRow, standIns := [], harness := (true, "fdecd14b5aee4d15975cbb71f6bca06425e3b8492f5592659df1109398f6c454"), looks := false }, kinds := [], alts := [], laidByText := true, laidKinds := [.data, .pinned], laidTests := true, laidLooks := .later }
def FnExactUsedByCardSaid : Prop := Claim7.holds Tryz.pinned (.plain (OpenSpec.ofChange fnExactUsedBySpec)) fnExactUsedByCard

/-- THE TIED CARD OF 'laws.FnExactAddItem'. -/
def fnExactAddItemCard : Claim7 := { stood := { row := fnExactAddItemRow, standIns := [], harness := (true, "fdecd14b5aee4d15975cbb71f6bca06425e3b8492f5592659df1109398f6c454"), looks := false }, kinds := [], alts := [], laidByText := true, laidKinds := [.data, .pinned], laidTests := true, laidLooks := .later }
def FnExactAddItemCardSaid : Prop := Claim7.holds Tryz.pinned (.plain (OpenSpec.ofChange fnExactAddItemSpec)) fnExactAddItemCard

/-- THE TIED CARD OF 'laws.FnExactCollect'. -/
def fnExactCollectCard : Claim7 := { stood := { row := fnExactCollectRow, standIns := [], harness := (true, "fdecd14b5aee4d15975cbb71f6bca06425e3b8492f5592659df1109398f6c454"), looks := false }, kinds := [], alts := [], laidByText := true, laidKinds := [.data, .pinned], laidTests := true, laidLooks := .later }
def FnExactCollectCardSaid : Prop := Claim7.holds Tryz.pinned (.plain (OpenSpec.ofChange fnExactCollectSpec)) fnExactCollectCard

/-- THE SECOND FORM's CARD OF 'laws.FnExactStoreOk'. -/
def fnExactStoreOkUptoCard : Claim7 := { stood := { row := fnExactStoreOkUptoRow, standIns := [], harness := (true, "fdecd14b5aee4d15975cbb71f6bca06425e3b8492f5592659df1109398f6c454"), looks := false }, kinds := [], alts := [], laidByText := true, laidKinds := [.data, .pinned], laidTests := true, laidLooks := .later }
def FnExactStoreOkUptoCardSaid : Prop := Claim7.holds Tryz.pinned (.plain (OpenSpec.upto fnExactStoreOkSpec)) fnExactStoreOkUptoCard

/-- THE SECOND FORM's CARD OF 'laws.FnExactUsedBy'. -/
def fnExactUsedByUptoCard : Claim7 := { stood := { row := fnExactUsedByUptoRow, standIns := [], harness := (true, "fdecd14b5aee4d15975cbb71f6bca06425e3b8492f5592659df1109398f6c454"), looks := false }, kinds := [], alts := [], laidByText := true, laidKinds := [.data, .pinned], laidTests := true, laidLooks := .later }
def FnExactUsedByUptoCardSaid : Prop := Claim7.holds Tryz.pinned (.plain (OpenSpec.upto fnExactUsedBySpec)) fnExactUsedByUptoCard

/-- THE SECOND FORM's CARD OF 'laws.FnExactAddItem'. -/
def fnExactAddItemUptoCard : Claim7 := { stood := { row := fnExactAddItemUptoRow, standIns := [], harness := (true, "fdecd14b5aee4d15975cbb71f6bca06425e3b8492f5592659df1109398f6c454"), looks := false }, kinds := [], alts := [], laidByText := true, laidKinds := [.data, .pinned], laidTests := true, laidLooks := .later }
def FnExactAddItemUptoCardSaid : Prop := Claim7.holds Tryz.pinned (.plain (OpenSpec.upto fnExactAddItemSpec)) fnExactAddItemUptoCard

/-- THE SECOND FORM's CARD OF 'laws.FnExactCollect'. -/
def fnExactCollectUptoCard : Claim7 := { stood := { row := fnExactCollectUptoRow, standIns := [], harness := (true, "fdecd14b5aee4d15975cbb71f6bca06425e3b8492f5592659df1109398f6c454"), looks := false }, kinds := [], alts := [], laidByText := true, laidKinds := [.data, .pinned], laidTests := true, laidLooks := .later }
def FnExactCollectUptoCardSaid : Prop := Claim7.holds Tryz.pinned (.plain (OpenSpec.upto fnExactCollectSpec)) fnExactCollectUptoCard
end Rows
end Go.Proofs.YtkhhkpjeafknpaaGreatDoor
