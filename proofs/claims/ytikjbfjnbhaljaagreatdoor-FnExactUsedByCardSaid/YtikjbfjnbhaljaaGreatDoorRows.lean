/-
  NARROWER THAN 'FOR EVERY INPUT', by the rows' own cells (each row's printed sentence says how): FnExactOptimise: laid · FnExactUsedBy: laid · FnExactAddItem: laid · FnExactCollect: laid · FnExactCollectSome: laid.
  DERIVED. THE GIVEN ROWS OF THIS SEAT. 5 by the template 'for every input the law returns true; each argument reads behind the call as it read before'; 0 by the template 'total and deterministic' (their statements: YtikjbfjnbhaljaaGreatDoorTotals.lean).
  GIVEN WITH THE SEED: the statements are not yours to turn. If you find one false, say at which input.
  Laid BY PROGRAM, IN A SANDBOX (cutbox-rows.mjs): the forced cells as the released guide's own fill.sh prints them over the translation da17168a44730f34… (all of the seat's roots in one cut). By AI agents, Wed Nov 11 2026. No macro, syntax, notation, axiom, sorry.
-/
import Derived.Test.YtikjbfjnbhaljaaGreatDoorChecked
import GoSem.PinnedTables
import GoSem.Claim
import GoSem.ClaimJoined
import GoSem.ClaimMapViews
import Derived.JoinedTies
import Derived.KernelRfl
namespace Go.Proofs.YtikjbfjnbhaljaaGreatDoor
/- THE CELL 'sum', in the pinned program and in every row, IS THE sha256 OF THE DUMP (.gsa) THAT YtikjbfjnbhaljaaGreatDoorProg.lean LOADS. Nothing in Lean hashes anything: it is a label: what it is worth is what the hold of that sum in a sandbox is worth. -/
noncomputable def Tryz.pinned : Pinned := { name := "ytikjbfjnbhaljaagreatdoor", sum := "da17168a44730f346e116562ecf0a379d86a721ce33402f8497b91cdd3636dac", checked := Tryz.checked }
namespace Rows
def none {H : Type} : Left H := { results := [], args := [] }

/- WHAT THE LISTED PACKAGE-LEVEL VARIABLES READ AS WHEN THE CALL BEGINS. Each datum BY PROGRAM (the guide's laid-datum.mjs) off the statement by which the dump's own 'gosem.cut.vars' lays the variable. In a bare row this is a premise. The card (YtikjbfjnbhaljaaGreatDoorCards.lean) ties it to the program's text. -/
def laid_unicode_utf8_acceptRanges {H : Type} : DataW H := .agg [.agg [.lit (.int .u8 128), .lit (.int .u8 191)], .agg [.lit (.int .u8 160), .lit (.int .u8 191)], .agg [.lit (.int .u8 128), .lit (.int .u8 159)], .agg [.lit (.int .u8 144), .lit (.int .u8 191)], .agg [.lit (.int .u8 128), .lit (.int .u8 143)], .agg [.lit (.int .u8 0), .lit (.int .u8 0)], .agg [.lit (.int .u8 0), .lit (.int .u8 0)], .agg [.lit (.int .u8 0), .lit (.int .u8 0)], .agg [.lit (.int .u8 0), .lit (.int .u8 0)], .agg [.lit (.int .u8 0), .lit (.int .u8 0)], .agg [.lit (.int .u8 0), .lit (.int .u8 0)], .agg [.lit (.int .u8 0), .lit (.int .u8 0)], .agg [.lit (.int .u8 0), .lit (.int .u8 0)], .agg [.lit (.int .u8 0), .lit (.int .u8 0)], .agg [.lit (.int .u8 0), .lit (.int .u8 0)], .agg [.lit (.int .u8 0), .lit (.int .u8 0)]]
/-- One of Go's own tables, pinned by name: the form's constant. -/
def laid_unicode_utf8_first : DataW Unit := Go.Pinned.utf8First

/-- 'laws.FnExactOptimise': WHATEVER THE INPUT: true; the input reads as it did. -/
def fnExactOptimiseSpec : ChangeSpec := { name := "fnExactOptimise", fn := fun _ => fun
  | [d] => { results := [.lit (.bool true)], args := [d] }
  | _ => none }
def fnExactOptimiseRow : OpenClaim := { program := "ytikjbfjnbhaljaagreatdoor", sum := "da17168a44730f346e116562ecf0a379d86a721ce33402f8497b91cdd3636dac", func := "loop.example/g00023/laws.FnExactOptimise", spec := "fnExactOptimise", inPlace := ["internal/bytealg.IndexByteString", "internal/bytealg.IndexString", "internal/bytealg.CountString"], recurses := true, named := ["unicode/utf8.first", "unicode/utf8.acceptRanges", "internal/bytealg.MaxLen"], plainKeys := false, apart := false, laid := [("unicode/utf8.acceptRanges", laid_unicode_utf8_acceptRanges), ("unicode/utf8.first", laid_unicode_utf8_first)] }
def FnExactOptimiseSaid : Prop := fnExactOptimiseRow.holds Tryz.pinned (OpenSpec.ofChange fnExactOptimiseSpec)

/-- ITS FALSE NEIGHBOUR: 'it returns false'. Refute it at one input. -/
def fnExactOptimiseWrong : ChangeSpec := { name := "fnExactOptimise", fn := fun _ => fun
  | [d] => { results := [.lit (.bool false)], args := [d] }
  | _ => none }
def FnExactOptimiseWrongFalsely : Prop := fnExactOptimiseRow.holds Tryz.pinned (OpenSpec.ofChange fnExactOptimiseWrong)

/-- 'laws.FnExactUsedBy': WHATEVER THE INPUT: true; the input reads as it did. -/
def fnExactUsedBySpec : ChangeSpec := { name := "fnExactUsedBy", fn := fun _ => fun
  | [d1, d2] => { results := [.lit (.bool true)], args := [d1, d2] }
  | _ => none }
def fnExactUsedByRow : OpenClaim := { program := "ytikjbfjnbhaljaagreatdoor", sum := "da17168a44730f346e116562ecf0a379d86a721ce33402f8497b91cdd3636dac", func := "loop.example/g00023/laws.FnExactUsedBy", spec := "fnExactUsedBy", inPlace := ["internal/bytealg.IndexByteString", "internal/bytealg.IndexString", "internal/bytealg.CountString"], recurses := true, named := ["unicode/utf8.first", "unicode/utf8.acceptRanges", "internal/bytealg.MaxLen"], plainKeys := false, apart := false, laid := [("unicode/utf8.acceptRanges", laid_unicode_utf8_acceptRanges), ("unicode/utf8.first", laid_unicode_utf8_first)] }
def FnExactUsedBySaid : Prop := fnExactUsedByRow.holds Tryz.pinned (OpenSpec.ofChange fnExactUsedBySpec)

/-- ITS FALSE NEIGHBOUR: 'it returns false'. Refute it at one input. -/
def fnExactUsedByWrong : ChangeSpec := { name := "fnExactUsedBy", fn := fun _ => fun
  | [d1, d2] => { results := [.lit (.bool false)], args := [d1, d2] }
  | _ => none }
def FnExactUsedByWrongFalsely : Prop := fnExactUsedByRow.holds Tryz.pinned (OpenSpec.ofChange fnExactUsedByWrong)

/-- 'laws.FnExactAddItem': WHATEVER THE INPUT: true; the input reads as it did. -/
def fnExactAddItemSpec : ChangeSpec := { name := "fnExactAddItem", fn := fun _ => fun
  | [d1, d2, d3, d4] => { results := [.lit (.bool true)], args := [d1, d2, d3, d4] }
  | _ => none }
def fnExactAddItemRow : OpenClaim := { program := "ytikjbfjnbhaljaagreatdoor", sum := "da17168a44730f346e116562ecf0a379d86a721ce33402f8497b91cdd3636dac", func := "loop.example/g00023/laws.FnExactAddItem", spec := "fnExactAddItem", inPlace := ["internal/bytealg.IndexByteString", "internal/bytealg.IndexString", "internal/bytealg.CountString"], recurses := true, named := ["unicode/utf8.first", "unicode/utf8.acceptRanges", "internal/bytealg.MaxLen"], plainKeys := false, apart := false, laid := [("unicode/utf8.acceptRanges", laid_unicode_utf8_acceptRanges), ("unicode/utf8.first", laid_unicode_utf8_first)] }
def FnExactAddItemSaid : Prop := fnExactAddItemRow.holds Tryz.pinned (OpenSpec.ofChange fnExactAddItemSpec)

/-- ITS FALSE NEIGHBOUR: 'it returns false'. Refute it at one input. -/
def fnExactAddItemWrong : ChangeSpec := { name := "fnExactAddItem", fn := fun _ => fun
  | [d1, d2, d3, d4] => { results := [.lit (.bool false)], args := [d1, d2, d3, d4] }
  | _ => none }
def FnExactAddItemWrongFalsely : Prop := fnExactAddItemRow.holds Tryz.pinned (OpenSpec.ofChange fnExactAddItemWrong)

/-- 'laws.FnExactCollect': WHATEVER THE INPUT: true; the input reads as it did. -/
def fnExactCollectSpec : ChangeSpec := { name := "fnExactCollect", fn := fun _ => fun
  | [d1, d2] => { results := [.lit (.bool true)], args := [d1, d2] }
  | _ => none }
def fnExactCollectRow : OpenClaim := { program := "ytikjbfjnbhaljaagreatdoor", sum := "da17168a44730f346e116562ecf0a379d86a721ce33402f8497b91cdd3636dac", func := "loop.example/g00023/laws.FnExactCollect", spec := "fnExactCollect", inPlace := ["internal/bytealg.IndexByteString", "internal/bytealg.IndexString", "internal/bytealg.CountString"], unfollowed := true, recurses := true, named := ["unicode/utf8.first", "unicode/utf8.acceptRanges", "internal/bytealg.MaxLen"], plainKeys := false, apart := false, laid := [("unicode/utf8.acceptRanges", laid_unicode_utf8_acceptRanges), ("unicode/utf8.first", laid_unicode_utf8_first)] }
def FnExactCollectSaid : Prop := fnExactCollectRow.holds Tryz.pinned (OpenSpec.ofChange fnExactCollectSpec)

/-- ITS FALSE NEIGHBOUR: 'it returns false'. Refute it at one input. -/
def fnExactCollectWrong : ChangeSpec := { name := "fnExactCollect", fn := fun _ => fun
  | [d1, d2] => { results := [.lit (.bool false)], args := [d1, d2] }
  | _ => none }
def FnExactCollectWrongFalsely : Prop := fnExactCollectRow.holds Tryz.pinned (OpenSpec.ofChange fnExactCollectWrong)

/-- 'laws.FnExactCollectSome': WHATEVER THE INPUT: true; the input reads as it did. -/
def fnExactCollectSomeSpec : ChangeSpec := { name := "fnExactCollectSome", fn := fun _ => fun
  | [d1, d2, d3] => { results := [.lit (.bool true)], args := [d1, d2, d3] }
  | _ => none }
def fnExactCollectSomeRow : OpenClaim := { program := "ytikjbfjnbhaljaagreatdoor", sum := "da17168a44730f346e116562ecf0a379d86a721ce33402f8497b91cdd3636dac", func := "loop.example/g00023/laws.FnExactCollectSome", spec := "fnExactCollectSome", inPlace := ["internal/bytealg.IndexByteString", "internal/bytealg.IndexString", "internal/bytealg.CountString"], unfollowed := true, recurses := true, named := ["unicode/utf8.first", "unicode/utf8.acceptRanges", "internal/bytealg.MaxLen"], plainKeys := false, apart := false, laid := [("unicode/utf8.acceptRanges", laid_unicode_utf8_acceptRanges), ("unicode/utf8.first", laid_unicode_utf8_first)] }
def FnExactCollectSomeSaid : Prop := fnExactCollectSomeRow.holds Tryz.pinned (OpenSpec.ofChange fnExactCollectSomeSpec)

/-- ITS FALSE NEIGHBOUR: 'it returns false'. Refute it at one input. -/
def fnExactCollectSomeWrong : ChangeSpec := { name := "fnExactCollectSome", fn := fun _ => fun
  | [d1, d2, d3] => { results := [.lit (.bool false)], args := [d1, d2, d3] }
  | _ => none }
def FnExactCollectSomeWrongFalsely : Prop := fnExactCollectSomeRow.holds Tryz.pinned (OpenSpec.ofChange fnExactCollectSomeWrong)

/- THE SECOND FORM. 'bulk': how many values and letters a reading holds, each counted each time it is reached (what is shared counts as often as it is met; a slice's spare places count too). A statement '..UptoSaid' is the law's where the arguments, and the package variables that the reading takes, are together of bulk at most 1048576: NARROWER than '..Said'. Prove '..Said' where nothing that the law and all that it calls make is longer than what came in: it says more and counts as full. Else prove '..UptoSaid'. A law counts once. -/
mutual
def uptoBulk {H : Type} : DataW H → Nat
  | .lit (.string bytes) => bytes.length + 1
  | .lit _ => 1
  | .nil => 1
  | .ptr d => uptoBulk d + 1
  | .slice elems spare => uptoBulkAll elems + uptoBulkAll spare + 1
  | .agg parts => uptoBulkAll parts + 1
  | .iface _ d => uptoBulk d + 1
  | .map entries => uptoBulkEntries entries + 1
  | .held _ => 1
def uptoBulkAll {H : Type} : List (DataW H) → Nat
  | [] => 0
  | d :: r => uptoBulk d + uptoBulkAll r
def uptoBulkEntries {H : Type} : List (Lit × DataW H) → Nat
  | [] => 0
  | x :: r => uptoBulkEntry x + uptoBulkEntries r
def uptoBulkEntry {H : Type} : Lit × DataW H → Nat
  | (.string bytes, d) => bytes.length + uptoBulk d + 1
  | (_, d) => uptoBulk d + 1
 end
def uptoSmall : (H : Type) → List (DataW H) → Bool := fun _ ds => decide (uptoBulkAll ds ≤ 1048576)
def OpenSpec.upto (s : _root_.Go.ChangeSpec) : _root_.Go.OpenSpec := { _root_.Go.OpenSpec.ofChange s with cond := some uptoSmall }

/-- 'laws.FnExactOptimise', WHERE WHAT IT READS IS OF BULK AT MOST 1048576: true; the input reads as it did. -/
def fnExactOptimiseUptoRow : OpenClaim := { program := "ytikjbfjnbhaljaagreatdoor", sum := "da17168a44730f346e116562ecf0a379d86a721ce33402f8497b91cdd3636dac", func := "loop.example/g00023/laws.FnExactOptimise", spec := "fnExactOptimise", inPlace := ["internal/bytealg.IndexByteString", "internal/bytealg.IndexString", "internal/bytealg.CountString"], recurses := true, named := ["unicode/utf8.first", "unicode/utf8.acceptRanges", "internal/bytealg.MaxLen"], plainKeys := false, apart := false, laid := [("unicode/utf8.acceptRanges", laid_unicode_utf8_acceptRanges), ("unicode/utf8.first", laid_unicode_utf8_first)], narrowed := true }
def FnExactOptimiseUptoSaid : Prop := fnExactOptimiseUptoRow.holds Tryz.pinned (OpenSpec.upto fnExactOptimiseSpec)

/-- 'laws.FnExactUsedBy', WHERE WHAT IT READS IS OF BULK AT MOST 1048576: true; the input reads as it did. -/
def fnExactUsedByUptoRow : OpenClaim := { program := "ytikjbfjnbhaljaagreatdoor", sum := "da17168a44730f346e116562ecf0a379d86a721ce33402f8497b91cdd3636dac", func := "loop.example/g00023/laws.FnExactUsedBy", spec := "fnExactUsedBy", inPlace := ["internal/bytealg.IndexByteString", "internal/bytealg.IndexString", "internal/bytealg.CountString"], recurses := true, named := ["unicode/utf8.first", "unicode/utf8.acceptRanges", "internal/bytealg.MaxLen"], plainKeys := false, apart := false, laid := [("unicode/utf8.acceptRanges", laid_unicode_utf8_acceptRanges), ("unicode/utf8.first", laid_unicode_utf8_first)], narrowed := true }
def FnExactUsedByUptoSaid : Prop := fnExactUsedByUptoRow.holds Tryz.pinned (OpenSpec.upto fnExactUsedBySpec)

/-- 'laws.FnExactAddItem', WHERE WHAT IT READS IS OF BULK AT MOST 1048576: true; the input reads as it did. -/
def fnExactAddItemUptoRow : OpenClaim := { program := "ytikjbfjnbhaljaagreatdoor", sum := "da17168a44730f346e116562ecf0a379d86a721ce33402f8497b91cdd3636dac", func := "loop.example/g00023/laws.FnExactAddItem", spec := "fnExactAddItem", inPlace := ["internal/bytealg.IndexByteString", "internal/bytealg.IndexString", "internal/bytealg.CountString"], recurses := true, named := ["unicode/utf8.first", "unicode/utf8.acceptRanges", "internal/bytealg.MaxLen"], plainKeys := false, apart := false, laid := [("unicode/utf8.acceptRanges", laid_unicode_utf8_acceptRanges), ("unicode/utf8.first", laid_unicode_utf8_first)], narrowed := true }
def FnExactAddItemUptoSaid : Prop := fnExactAddItemUptoRow.holds Tryz.pinned (OpenSpec.upto fnExactAddItemSpec)

/-- 'laws.FnExactCollect', WHERE WHAT IT READS IS OF BULK AT MOST 1048576: true; the input reads as it did. -/
def fnExactCollectUptoRow : OpenClaim := { program := "ytikjbfjnbhaljaagreatdoor", sum := "da17168a44730f346e116562ecf0a379d86a721ce33402f8497b91cdd3636dac", func := "loop.example/g00023/laws.FnExactCollect", spec := "fnExactCollect", inPlace := ["internal/bytealg.IndexByteString", "internal/bytealg.IndexString", "internal/bytealg.CountString"], unfollowed := true, recurses := true, named := ["unicode/utf8.first", "unicode/utf8.acceptRanges", "internal/bytealg.MaxLen"], plainKeys := false, apart := false, laid := [("unicode/utf8.acceptRanges", laid_unicode_utf8_acceptRanges), ("unicode/utf8.first", laid_unicode_utf8_first)], narrowed := true }
def FnExactCollectUptoSaid : Prop := fnExactCollectUptoRow.holds Tryz.pinned (OpenSpec.upto fnExactCollectSpec)

/-- 'laws.FnExactCollectSome', WHERE WHAT IT READS IS OF BULK AT MOST 1048576: true; the input reads as it did. -/
def fnExactCollectSomeUptoRow : OpenClaim := { program := "ytikjbfjnbhaljaagreatdoor", sum := "da17168a44730f346e116562ecf0a379d86a721ce33402f8497b91cdd3636dac", func := "loop.example/g00023/laws.FnExactCollectSome", spec := "fnExactCollectSome", inPlace := ["internal/bytealg.IndexByteString", "internal/bytealg.IndexString", "internal/bytealg.CountString"], unfollowed := true, recurses := true, named := ["unicode/utf8.first", "unicode/utf8.acceptRanges", "internal/bytealg.MaxLen"], plainKeys := false, apart := false, laid := [("unicode/utf8.acceptRanges", laid_unicode_utf8_acceptRanges), ("unicode/utf8.first", laid_unicode_utf8_first)], narrowed := true }
def FnExactCollectSomeUptoSaid : Prop := fnExactCollectSomeUptoRow.holds Tryz.pinned (OpenSpec.upto fnExactCollectSomeSpec)

end Rows
end Go.Proofs.YtikjbfjnbhaljaaGreatDoor
