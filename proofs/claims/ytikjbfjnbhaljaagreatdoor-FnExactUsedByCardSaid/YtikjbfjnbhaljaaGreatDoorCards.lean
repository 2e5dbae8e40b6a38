/-
  DERIVED. GIVEN WITH THE SEED: THE CARDS: each row of YtikjbfjnbhaljaaGreatDoorRows.lean that lists a variable, with what it lists TIED to the program's text (the seventh form; the later family's looks); each row that meets fmt, with fmt's text TOLD by the authors' own Lean function (tested against real Go, not proved from fmt's source: count such statements apart). THE CARD IS WHAT COUNTS. Prove the row's statement (the work); the ties are given (YtikjbfjnbhaljaaGreatDoorTie.lean); close each card by the builder's one call (the guide's Derived/Test/ToyasCard.lean, 'card_holds'). Laid BY PROGRAM, IN A SANDBOX (cutbox-door.mjs). By AI agents, Wed Nov 11 2026. No macro, syntax, notation, axiom, sorry.
-/
import Derived.Test.YtikjbfjnbhaljaaGreatDoorRows
import GoSem.ClaimSeven
namespace Go.Proofs.YtikjbfjnbhaljaaGreatDoor
namespace Rows

/-- THE TIED CARD OF 'laws.FnExactOptimise'. -/
def fnExactOptimiseCard : Claim7 := { stood := { row := fnExactOptimiseRow, standIns := [], harness := (true, "b4aa09afc6ed7f735e6efe6dd62187c9395c94c8af7591a03d440c857341b501"), looks := false }, kinds := [], alts := [], laidByText := true, laidKinds := [.data, .pinned], laidTests := true, laidLooks := .later }
def FnExactOptimiseCardSaid : Prop := Claim7.holds Tryz.pinned (.plain (OpenSpec.ofChange fnExactOptimiseSpec)) fnExactOptimiseCard

/-- THE TIED CARD OF 'laws.FnExactUsedBy'. -/
def fnExactUsedByCard : Claim7 := { stood := { row := fnExactUsedByRow, standIns := [], harness := (true, "b4aa09afc6ed7f735e6efe6dd62187c9395c94c8af7591a03d440c857341b501"), looks := false }, kinds := [], alts := [], laidByText := true, laidKinds := [.data, .pinned], laidTests := true, laidLooks := .later }
def FnExactUsedByCardSaid : Prop := Claim7.holds Tryz.pinned (.plain (OpenSpec.ofChange fnExactUsedBySpec)) fnExactUsedByCard

/-- THE TIED CARD OF 'laws.FnExactAddItem'. -/
def fnExactAddItemCard : Claim7 := { stood := { row := fnExactAddItemRow, standIns := [], harness := (true, "b4aa09afc6ed7f735e6efe6dd62187c9395c94c8af7591a03d440c857341b501"), looks := false }, kinds := [], alts := [], laidByText := true, laidKinds := [.data, .pinned], laidTests := true, laidLooks := .later }
def FnExactAddItemCardSaid : Prop := Claim7.holds Tryz.pinned (.plain (OpenSpec.ofChange fnExactAddItemSpec)) fnExactAddItemCard

/-- THE TIED CARD OF 'laws.FnExactCollect'. -/
def fnExactCollectCard : Claim7 := { stood := { row := fnExactCollectRow, standIns := [], harness := (true, "b4aa09afc6ed7f735e6efe6dd62187c9395c94c8af7591a03d440c857341b501"), looks := false }, kinds := [], alts := [], laidByText := true, laidKinds := [.data, .pinned], laidTests := true, laidLooks := .later }
def FnExactCollectCardSaid : Prop := Claim7.holds Tryz.pinned (.plain (OpenSpec.ofChange fnExactCollectSpec)) fnExactCollectCard

/-- THE TIED CARD OF 'laws.FnExactCollectSome'. -/
def fnExactCollectSomeCard : Claim7 := { stood := { row := fnExactCollectSomeRow, standIns := [], harness := (true, "b4aa09afc6ed7f735e6efe6dd62187c9395c94c8af7591a03d440c857341b501"), looks := false }, kinds := [], alts := [], laidByText := true, laidKinds := [.data, .pinned], laidTests := true, laidLooks := .later }
def FnExactCollectSomeCardSaid : Prop := Claim7.holds Tryz.pinned (.plain (OpenSpec.ofChange fnExactCollectSomeSpec)) fnExactCollectSomeCard

/-- THE SECOND FORM's CARD OF 'laws.FnExactOptimise'. -/
def fnExactOptimiseUptoCard : Claim7 := { stood := { row := fnExactOptimiseUptoRow, standIns := [], harness := (true, "b4aa09afc6ed7f735e6efe6dd62187c9395c94c8af7591a03d440c857341b501"), looks := false }, kinds := [], alts := [], laidByText := true, laidKinds := [.data, .pinned], laidTests := true, laidLooks := .later }
def FnExactOptimiseUptoCardSaid : Prop := Claim7.holds Tryz.pinned (.plain (OpenSpec.upto fnExactOptimiseSpec)) fnExactOptimiseUptoCard

/-- THE SECOND FORM's CARD OF 'laws.FnExactUsedBy'. -/
def fnExactUsedByUptoCard : Claim7 := { stood := { row := fnExactUsedByUptoRow, standIns := [], harness := (true, "b4aa09afc6ed7f735e6efe6dd62187c9395c94c8af7591a03d440c857341b501"), looks := false }, kinds := [], alts := [], laidByText := true, laidKinds := [.data, .pinned], laidTests := true, laidLooks := .later }
def FnExactUsedByUptoCardSaid : Prop := Claim7.holds Tryz.pinned (.plain (OpenSpec.upto fnExactUsedBySpec)) fnExactUsedByUptoCard

/-- THE SECOND FORM's CARD OF 'laws.FnExactAddItem'. -/
def fnExactAddItemUptoCard : Claim7 := { stood := { row := fnExactAddItemUptoRow, standIns := [], harness := (true, "b4aa09afc6ed7f735e6efe6dd62187c9395c94c8af7591a03d440c857341b501"), looks := false }, kinds := [], alts := [], laidByText := true, laidKinds := [.data, .pinned], laidTests := true, laidLooks := .later }
def FnExactAddItemUptoCardSaid : Prop := Claim7.holds Tryz.pinned (.plain (OpenSpec.upto fnExactAddItemSpec)) fnExactAddItemUptoCard

/-- THE SECOND FORM's CARD OF 'laws.FnExactCollect'. -/
def fnExactCollectUptoCard : Claim7 := { stood := { row := fnExactCollectUptoRow, standIns := [], harness := (true, "b4aa09afc6ed7f735e6efe6dd62187c9395c94c8af7591a03d440c857341b501"), looks := false }, kinds := [], alts := [], laidByText := true, laidKinds := [.data, .pinned], laidTests := true, laidLooks := .later }
def FnExactCollectUptoCardSaid : Prop := Claim7.holds Tryz.pinned (.plain (OpenSpec.upto fnExactCollectSpec)) fnExactCollectUptoCard

/-- THE SECOND FORM's CARD OF 'laws.FnExactCollectSome'. -/
def fnExactCollectSomeUptoCard : Claim7 := { stood := { row := fnExactCollectSomeUptoRow, standIns := [], harness := (true, "b4aa09afc6ed7f735e6efe6dd62187c9395c94c8af7591a03d440c857341b501"), looks := false }, kinds := [], alts := [], laidByText := true, laidKinds := [.data, .pinned], laidTests := true, laidLooks := .later }
def FnExactCollectSomeUptoCardSaid : Prop := Claim7.holds Tryz.pinned (.plain (OpenSpec.upto fnExactCollectSomeSpec)) fnExactCollectSomeUptoCard
end Rows
end Go.Proofs.YtikjbfjnbhaljaaGreatDoor
