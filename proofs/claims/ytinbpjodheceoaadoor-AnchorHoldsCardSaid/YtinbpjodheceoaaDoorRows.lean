/-
  NARROWER THAN 'FOR EVERY INPUT', by the rows' own cells (each row's printed sentence says how): AnchorStays: laid · AnchorPlain: laid · ChangeOnce: laid · ChangeParts: laid · ChangeRights: laid · ChangeNothing: laid · ChangeNormals: laid · ChangeLonger: laid · AnchorMoves: laid · AnchorHolds: laid · AnchorApart: laid.
  DERIVED. THE GIVEN ROWS OF THIS SEAT. 11 by the template 'for every input the law returns true; each argument reads behind the call as it read before'; 0 by the template 'total and deterministic' (their statements: YtinbpjodheceoaaDoorTotals.lean).
  GIVEN WITH THE SEED: the statements are not yours to turn. If you find one false, say at which input.
  Laid BY PROGRAM, IN A SANDBOX (cutbox-rows.mjs): the forced cells as the released guide's own fill.sh prints them over the translation 8ad181261fcd57ae… (all of the seat's roots in one cut). By AI agents, Wed Nov 11 2026. No macro, syntax, notation, axiom, sorry.
-/
import Derived.Test.YtinbpjodheceoaaDoorChecked
import GoSem.PinnedTables
import GoSem.Claim
import GoSem.ClaimJoined
import GoSem.ClaimMapViews
import Derived.JoinedTies
import Derived.KernelRfl
namespace Go.Proofs.YtinbpjodheceoaaDoor
/- THE CELL 'sum', in the pinned program and in every row, IS THE sha256 OF THE DUMP (.gsa) THAT YtinbpjodheceoaaDoorProg.lean LOADS. Nothing in Lean hashes anything: it is a label: what it is worth is what the hold of that sum in a sandbox is worth. -/
noncomputable def Tryd.pinned : Pinned := { name := "ytinbpjodheceoaadoor", sum := "8ad181261fcd57ae7dac30461ed4b56f7d121e81124d8e51eab94f71d518d072", checked := Tryd.checked }
namespace Rows
def none {H : Type} : Left H := { results := [], args := [] }

/- WHAT THE LISTED PACKAGE-LEVEL VARIABLES READ AS WHEN THE CALL BEGINS. Each datum BY PROGRAM (the guide's laid-datum.mjs) off the statement by which the dump's own 'gosem.cut.vars' lays the variable. In a bare row this is a premise. The card (YtinbpjodheceoaaDoorCards.lean) ties it to the program's text. -/
def laid_unicode_utf8_acceptRanges {H : Type} : DataW H := .agg [.agg [.lit (.int .u8 128), .lit (.int .u8 191)], .agg [.lit (.int .u8 160), .lit (.int .u8 191)], .agg [.lit (.int .u8 128), .lit (.int .u8 159)], .agg [.lit (.int .u8 144), .lit (.int .u8 191)], .agg [.lit (.int .u8 128), .lit (.int .u8 143)], .agg [.lit (.int .u8 0), .lit (.int .u8 0)], .agg [.lit (.int .u8 0), .lit (.int .u8 0)], .agg [.lit (.int .u8 0), .lit (.int .u8 0)], .agg [.lit (.int .u8 0), .lit (.int .u8 0)], .agg [.lit (.int .u8 0), .lit (.int .u8 0)], .agg [.lit (.int .u8 0), .lit (.int .u8 0)], .agg [.lit (.int .u8 0), .lit (.int .u8 0)], .agg [.lit (.int .u8 0), .lit (.int .u8 0)], .agg [.lit (.int .u8 0), .lit (.int .u8 0)], .agg [.lit (.int .u8 0), .lit (.int .u8 0)], .agg [.lit (.int .u8 0), .lit (.int .u8 0)]]
/-- One of Go's own tables, pinned by name: the form's constant. -/
def laid_unicode_utf8_first : DataW Unit := Go.Pinned.utf8First

/-- 'blotterlaw08.AnchorStays': WHATEVER THE INPUT: true; the input reads as it did. -/
def anchorStaysSpec : ChangeSpec := { name := "anchorStays", fn := fun _ => fun
  | [d1, d2, d3] => { results := [.lit (.bool true)], args := [d1, d2, d3] }
  | _ => none }
def anchorStaysRow : OpenClaim := { program := "ytinbpjodheceoaadoor", sum := "8ad181261fcd57ae7dac30461ed4b56f7d121e81124d8e51eab94f71d518d072", func := "blotter/blotterlaw08.AnchorStays", spec := "anchorStays", inPlace := ["internal/bytealg.IndexByteString"], unfollowed := true, recurses := true, named := ["unicode/utf8.first", "unicode/utf8.acceptRanges"], apart := false, laid := [("unicode/utf8.acceptRanges", laid_unicode_utf8_acceptRanges), ("unicode/utf8.first", laid_unicode_utf8_first)] }
def AnchorStaysSaid : Prop := anchorStaysRow.holds Tryd.pinned (OpenSpec.ofChange anchorStaysSpec)

/-- ITS FALSE NEIGHBOUR: 'it returns false'. Refute it at one input. -/
def anchorStaysWrong : ChangeSpec := { name := "anchorStays", fn := fun _ => fun
  | [d1, d2, d3] => { results := [.lit (.bool false)], args := [d1, d2, d3] }
  | _ => none }
def AnchorStaysWrongFalsely : Prop := anchorStaysRow.holds Tryd.pinned (OpenSpec.ofChange anchorStaysWrong)

/-- 'blotterlaw08.AnchorPlain': WHATEVER THE INPUT: true; the input reads as it did. -/
def anchorPlainSpec : ChangeSpec := { name := "anchorPlain", fn := fun _ => fun
  | [d1, d2] => { results := [.lit (.bool true)], args := [d1, d2] }
  | _ => none }
def anchorPlainRow : OpenClaim := { program := "ytinbpjodheceoaadoor", sum := "8ad181261fcd57ae7dac30461ed4b56f7d121e81124d8e51eab94f71d518d072", func := "blotter/blotterlaw08.AnchorPlain", spec := "anchorPlain", inPlace := ["internal/bytealg.IndexByteString"], unfollowed := true, recurses := true, named := ["unicode/utf8.first", "unicode/utf8.acceptRanges"], apart := false, laid := [("unicode/utf8.acceptRanges", laid_unicode_utf8_acceptRanges), ("unicode/utf8.first", laid_unicode_utf8_first)] }
def AnchorPlainSaid : Prop := anchorPlainRow.holds Tryd.pinned (OpenSpec.ofChange anchorPlainSpec)

/-- ITS FALSE NEIGHBOUR: 'it returns false'. Refute it at one input. -/
def anchorPlainWrong : ChangeSpec := { name := "anchorPlain", fn := fun _ => fun
  | [d1, d2] => { results := [.lit (.bool false)], args := [d1, d2] }
  | _ => none }
def AnchorPlainWrongFalsely : Prop := anchorPlainRow.holds Tryd.pinned (OpenSpec.ofChange anchorPlainWrong)

/-- 'blotterlaw03.ChangeOnce': WHATEVER THE INPUT: true; the input reads as it did. -/
def changeOnceSpec : ChangeSpec := { name := "changeOnce", fn := fun _ => fun
  | [d] => { results := [.lit (.bool true)], args := [d] }
  | _ => none }
def changeOnceRow : OpenClaim := { program := "ytinbpjodheceoaadoor", sum := "8ad181261fcd57ae7dac30461ed4b56f7d121e81124d8e51eab94f71d518d072", func := "blotter/blotterlaw03.ChangeOnce", spec := "changeOnce", inPlace := ["internal/bytealg.IndexByteString"], unfollowed := true, recurses := true, named := ["unicode/utf8.first", "unicode/utf8.acceptRanges"], apart := false, laid := [("unicode/utf8.acceptRanges", laid_unicode_utf8_acceptRanges), ("unicode/utf8.first", laid_unicode_utf8_first)] }
def ChangeOnceSaid : Prop := changeOnceRow.holds Tryd.pinned (OpenSpec.ofChange changeOnceSpec)

/-- ITS FALSE NEIGHBOUR: 'it returns false'. Refute it at one input. -/
def changeOnceWrong : ChangeSpec := { name := "changeOnce", fn := fun _ => fun
  | [d] => { results := [.lit (.bool false)], args := [d] }
  | _ => none }
def ChangeOnceWrongFalsely : Prop := changeOnceRow.holds Tryd.pinned (OpenSpec.ofChange changeOnceWrong)

/-- 'blotterlaw03.ChangeParts': WHATEVER THE INPUT: true; the input reads as it did. -/
def changePartsSpec : ChangeSpec := { name := "changeParts", fn := fun _ => fun
  | [d1, d2] => { results := [.lit (.bool true)], args := [d1, d2] }
  | _ => none }
def changePartsRow : OpenClaim := { program := "ytinbpjodheceoaadoor", sum := "8ad181261fcd57ae7dac30461ed4b56f7d121e81124d8e51eab94f71d518d072", func := "blotter/blotterlaw03.ChangeParts", spec := "changeParts", inPlace := ["internal/bytealg.IndexByteString"], unfollowed := true, recurses := true, named := ["unicode/utf8.first", "unicode/utf8.acceptRanges"], apart := false, laid := [("unicode/utf8.acceptRanges", laid_unicode_utf8_acceptRanges), ("unicode/utf8.first", laid_unicode_utf8_first)] }
def ChangePartsSaid : Prop := changePartsRow.holds Tryd.pinned (OpenSpec.ofChange changePartsSpec)

/-- ITS FALSE NEIGHBOUR: 'it returns false'. Refute it at one input. -/
def changePartsWrong : ChangeSpec := { name := "changeParts", fn := fun _ => fun
  | [d1, d2] => { results := [.lit (.bool false)], args := [d1, d2] }
  | _ => none }
def ChangePartsWrongFalsely : Prop := changePartsRow.holds Tryd.pinned (OpenSpec.ofChange changePartsWrong)

/-- 'blotterlaw03.ChangeRights': WHATEVER THE INPUT: true; the input reads as it did. -/
def changeRightsSpec : ChangeSpec := { name := "changeRights", fn := fun _ => fun
  | [d1, d2, d3] => { results := [.lit (.bool true)], args := [d1, d2, d3] }
  | _ => none }
def changeRightsRow : OpenClaim := { program := "ytinbpjodheceoaadoor", sum := "8ad181261fcd57ae7dac30461ed4b56f7d121e81124d8e51eab94f71d518d072", func := "blotter/blotterlaw03.ChangeRights", spec := "changeRights", inPlace := ["internal/bytealg.IndexByteString"], unfollowed := true, recurses := true, named := ["unicode/utf8.first", "unicode/utf8.acceptRanges"], apart := false, laid := [("unicode/utf8.acceptRanges", laid_unicode_utf8_acceptRanges), ("unicode/utf8.first", laid_unicode_utf8_first)] }
def ChangeRightsSaid : Prop := changeRightsRow.holds Tryd.pinned (OpenSpec.ofChange changeRightsSpec)

/-- ITS FALSE NEIGHBOUR: 'it returns false'. Refute it at one input. -/
def changeRightsWrong : ChangeSpec := { name := "changeRights", fn := fun _ => fun
  | [d1, d2, d3] => { results := [.lit (.bool false)], args := [d1, d2, d3] }
  | _ => none }
def ChangeRightsWrongFalsely : Prop := changeRightsRow.holds Tryd.pinned (OpenSpec.ofChange changeRightsWrong)

/-- 'blotterlaw03.ChangeNothing': WHATEVER THE INPUT: true; the input reads as it did. -/
def changeNothingSpec : ChangeSpec := { name := "changeNothing", fn := fun _ => fun
  | [d] => { results := [.lit (.bool true)], args := [d] }
  | _ => none }
def changeNothingRow : OpenClaim := { program := "ytinbpjodheceoaadoor", sum := "8ad181261fcd57ae7dac30461ed4b56f7d121e81124d8e51eab94f71d518d072", func := "blotter/blotterlaw03.ChangeNothing", spec := "changeNothing", inPlace := ["internal/bytealg.IndexByteString"], unfollowed := true, recurses := true, named := ["unicode/utf8.first", "unicode/utf8.acceptRanges"], apart := false, laid := [("unicode/utf8.acceptRanges", laid_unicode_utf8_acceptRanges), ("unicode/utf8.first", laid_unicode_utf8_first)] }
def ChangeNothingSaid : Prop := changeNothingRow.holds Tryd.pinned (OpenSpec.ofChange changeNothingSpec)

/-- ITS FALSE NEIGHBOUR: 'it returns false'. Refute it at one input. -/
def changeNothingWrong : ChangeSpec := { name := "changeNothing", fn := fun _ => fun
  | [d] => { results := [.lit (.bool false)], args := [d] }
  | _ => none }
def ChangeNothingWrongFalsely : Prop := changeNothingRow.holds Tryd.pinned (OpenSpec.ofChange changeNothingWrong)

/-- 'blotterlaw03.ChangeNormals': WHATEVER THE INPUT: true; the input reads as it did. -/
def changeNormalsSpec : ChangeSpec := { name := "changeNormals", fn := fun _ => fun
  | [d] => { results := [.lit (.bool true)], args := [d] }
  | _ => none }
def changeNormalsRow : OpenClaim := { program := "ytinbpjodheceoaadoor", sum := "8ad181261fcd57ae7dac30461ed4b56f7d121e81124d8e51eab94f71d518d072", func := "blotter/blotterlaw03.ChangeNormals", spec := "changeNormals", inPlace := ["internal/bytealg.IndexByteString"], unfollowed := true, recurses := true, named := ["unicode/utf8.first", "unicode/utf8.acceptRanges"], apart := false, laid := [("unicode/utf8.acceptRanges", laid_unicode_utf8_acceptRanges), ("unicode/utf8.first", laid_unicode_utf8_first)] }
def ChangeNormalsSaid : Prop := changeNormalsRow.holds Tryd.pinned (OpenSpec.ofChange changeNormalsSpec)

/-- ITS FALSE NEIGHBOUR: 'it returns false'. Refute it at one input. -/
def changeNormalsWrong : ChangeSpec := { name := "changeNormals", fn := fun _ => fun
  | [d] => { results := [.lit (.bool false)], args := [d] }
  | _ => none }
def ChangeNormalsWrongFalsely : Prop := changeNormalsRow.holds Tryd.pinned (OpenSpec.ofChange changeNormalsWrong)

/-- 'blotterlaw03.ChangeLonger': WHATEVER THE INPUT: true; the input reads as it did. -/
def changeLongerSpec : ChangeSpec := { name := "changeLonger", fn := fun _ => fun
  | [d1, d2] => { results := [.lit (.bool true)], args := [d1, d2] }
  | _ => none }
def changeLongerRow : OpenClaim := { program := "ytinbpjodheceoaadoor", sum := "8ad181261fcd57ae7dac30461ed4b56f7d121e81124d8e51eab94f71d518d072", func := "blotter/blotterlaw03.ChangeLonger", spec := "changeLonger", inPlace := ["internal/bytealg.IndexByteString"], unfollowed := true, recurses := true, named := ["unicode/utf8.first", "unicode/utf8.acceptRanges"], apart := false, laid := [("unicode/utf8.acceptRanges", laid_unicode_utf8_acceptRanges), ("unicode/utf8.first", laid_unicode_utf8_first)] }
def ChangeLongerSaid : Prop := changeLongerRow.holds Tryd.pinned (OpenSpec.ofChange changeLongerSpec)

/-- ITS FALSE NEIGHBOUR: 'it returns false'. Refute it at one input. -/
def changeLongerWrong : ChangeSpec := { name := "changeLonger", fn := fun _ => fun
  | [d1, d2] => { results := [.lit (.bool false)], args := [d1, d2] }
  | _ => none }
def ChangeLongerWrongFalsely : Prop := changeLongerRow.holds Tryd.pinned (OpenSpec.ofChange changeLongerWrong)

/-- 'blotterlaw08.AnchorMoves': WHATEVER THE INPUT: true; the input reads as it did. -/
def anchorMovesSpec : ChangeSpec := { name := "anchorMoves", fn := fun _ => fun
  | [d1, d2, d3, d4] => { results := [.lit (.bool true)], args := [d1, d2, d3, d4] }
  | _ => none }
def anchorMovesRow : OpenClaim := { program := "ytinbpjodheceoaadoor", sum := "8ad181261fcd57ae7dac30461ed4b56f7d121e81124d8e51eab94f71d518d072", func := "blotter/blotterlaw08.AnchorMoves", spec := "anchorMoves", inPlace := ["internal/bytealg.IndexByteString"], unfollowed := true, recurses := true, named := ["unicode/utf8.first", "unicode/utf8.acceptRanges"], apart := false, laid := [("unicode/utf8.acceptRanges", laid_unicode_utf8_acceptRanges), ("unicode/utf8.first", laid_unicode_utf8_first)] }
def AnchorMovesSaid : Prop := anchorMovesRow.holds Tryd.pinned (OpenSpec.ofChange anchorMovesSpec)

/-- ITS FALSE NEIGHBOUR: 'it returns false'. Refute it at one input. -/
def anchorMovesWrong : ChangeSpec := { name := "anchorMoves", fn := fun _ => fun
  | [d1, d2, d3, d4] => { results := [.lit (.bool false)], args := [d1, d2, d3, d4] }
  | _ => none }
def AnchorMovesWrongFalsely : Prop := anchorMovesRow.holds Tryd.pinned (OpenSpec.ofChange anchorMovesWrong)

/-- 'blotterlaw08.AnchorHolds': WHATEVER THE INPUT: true; the input reads as it did. -/
def anchorHoldsSpec : ChangeSpec := { name := "anchorHolds", fn := fun _ => fun
  | [d1, d2] => { results := [.lit (.bool true)], args := [d1, d2] }
  | _ => none }
def anchorHoldsRow : OpenClaim := { program := "ytinbpjodheceoaadoor", sum := "8ad181261fcd57ae7dac30461ed4b56f7d121e81124d8e51eab94f71d518d072", func := "blotter/blotterlaw08.AnchorHolds", spec := "anchorHolds", inPlace := ["internal/bytealg.IndexByteString"], unfollowed := true, recurses := true, named := ["unicode/utf8.first", "unicode/utf8.acceptRanges"], apart := false, laid := [("unicode/utf8.acceptRanges", laid_unicode_utf8_acceptRanges), ("unicode/utf8.first", laid_unicode_utf8_first)] }
def AnchorHoldsSaid : Prop := anchorHoldsRow.holds Tryd.pinned (OpenSpec.ofChange anchorHoldsSpec)

/-- ITS FALSE NEIGHBOUR: 'it returns false'. Refute it at one input. -/
def anchorHoldsWrong : ChangeSpec := { name := "anchorHolds", fn := fun _ => fun
  | [d1, d2] => { results := [.lit (.bool false)], args := [d1, d2] }
  | _ => none }
def AnchorHoldsWrongFalsely : Prop := anchorHoldsRow.holds Tryd.pinned (OpenSpec.ofChange anchorHoldsWrong)

/-- 'blotterlaw08.AnchorApart': WHATEVER THE INPUT: true; the input reads as it did. -/
def anchorApartSpec : ChangeSpec := { name := "anchorApart", fn := fun _ => fun
  | [d1, d2, d3, d4, d5] => { results := [.lit (.bool true)], args := [d1, d2, d3, d4, d5] }
  | _ => none }
def anchorApartRow : OpenClaim := { program := "ytinbpjodheceoaadoor", sum := "8ad181261fcd57ae7dac30461ed4b56f7d121e81124d8e51eab94f71d518d072", func := "blotter/blotterlaw08.AnchorApart", spec := "anchorApart", inPlace := ["internal/bytealg.IndexByteString"], unfollowed := true, recurses := true, named := ["unicode/utf8.first", "unicode/utf8.acceptRanges"], apart := false, laid := [("unicode/utf8.acceptRanges", laid_unicode_utf8_acceptRanges), ("unicode/utf8.first", laid_unicode_utf8_first)] }
def AnchorApartSaid : Prop := anchorApartRow.holds Tryd.pinned (OpenSpec.ofChange anchorApartSpec)

/-- ITS FALSE NEIGHBOUR: 'it returns false'. Refute it at one input. -/
def anchorApartWrong : ChangeSpec := { name := "anchorApart", fn := fun _ => fun
  | [d1, d2, d3, d4, d5] => { results := [.lit (.bool false)], args := [d1, d2, d3, d4, d5] }
  | _ => none }
def AnchorApartWrongFalsely : Prop := anchorApartRow.holds Tryd.pinned (OpenSpec.ofChange anchorApartWrong)

/- THE SECOND FORM. 'bulk': how many values and letters a reading holds, each counted each time it is reached (what is shared counts as often as it is met; a slice's spare places count too). A statement '..UptoSaid' is the law's where the arguments, and the package variables that the reading takes, are together of bulk at most 1048576: NARROWER than '..Said'. Prove '..Said' where nothing that the law and all that it calls make is longer than what came in: it says more and counts as full. Else prove '..UptoSaid'. A law counts once. -/
mutual
def uptoBulk {H : Type} : DataW H → Nat
  | .lit (.string bytes) => bytes.length + 1
  | .lit _ => 1
  | .nil => 1
  | .ptr d => uptoBulk d + 1
  | .slice elems spare => uptoBulkAll elems + uptoBulkAll spare + 1
  | .agg parts => uptoBulkAll parts + 1
  | .iface _ d => uptoBulk d + 1
  | .map entries => uptoBulkEntries entries + 1
  | .held _ => 1
def uptoBulkAll {H : Type} : List (DataW H) → Nat
  | [] => 0
  | d :: r => uptoBulk d + uptoBulkAll r
def uptoBulkEntries {H : Type} : List (Lit × DataW H) → Nat
  | [] => 0
  | x :: r => uptoBulkEntry x + uptoBulkEntries r
def uptoBulkEntry {H : Type} : Lit × DataW H → Nat
  | (.string bytes, d) => bytes.length + uptoBulk d + 1
  | (_, d) => uptoBulk d + 1
 end
def uptoSmall : (H : Type) → List (DataW H) → Bool := fun _ ds => decide (uptoBulkAll ds ≤ 1048576)
def OpenSpec.upto (s : _root_.Go.ChangeSpec) : _root_.Go.OpenSpec := { _root_.Go.OpenSpec.ofChange s with cond := some uptoSmall }

/-- 'blotterlaw08.AnchorStays', WHERE WHAT IT READS IS OF BULK AT MOST 1048576: true; the input reads as it did. -/
def anchorStaysUptoRow : OpenClaim := { program := "ytinbpjodheceoaadoor", sum := "8ad181261fcd57ae7dac30461ed4b56f7d121e81124d8e51eab94f71d518d072", func := "blotter/blotterlaw08.AnchorStays", spec := "anchorStays", inPlace := ["internal/bytealg.IndexByteString"], unfollowed := true, recurses := true, named := ["unicode/utf8.first", "unicode/utf8.acceptRanges"], apart := false, laid := [("unicode/utf8.acceptRanges", laid_unicode_utf8_acceptRanges), ("unicode/utf8.first", laid_unicode_utf8_first)], narrowed := true }
def AnchorStaysUptoSaid : Prop := anchorStaysUptoRow.holds Tryd.pinned (OpenSpec.upto anchorStaysSpec)

/-- 'blotterlaw08.AnchorPlain', WHERE WHAT IT READS IS OF BULK AT MOST 1048576: true; the input reads as it did. -/
def anchorPlainUptoRow : OpenClaim := { program := "ytinbpjodheceoaadoor", sum := "8ad181261fcd57ae7dac30461ed4b56f7d121e81124d8e51eab94f71d518d072", func := "blotter/blotterlaw08.AnchorPlain", spec := "anchorPlain", inPlace := ["internal/bytealg.IndexByteString"], unfollowed := true, recurses := true, named := ["unicode/utf8.first", "unicode/utf8.acceptRanges"], apart := false, laid := [("unicode/utf8.acceptRanges", laid_unicode_utf8_acceptRanges), ("unicode/utf8.first", laid_unicode_utf8_first)], narrowed := true }
def AnchorPlainUptoSaid : Prop := anchorPlainUptoRow.holds Tryd.pinned (OpenSpec.upto anchorPlainSpec)

/-- 'blotterlaw03.ChangeOnce', WHERE WHAT IT READS IS OF BULK AT MOST 1048576: true; the input reads as it did. -/
def changeOnceUptoRow : OpenClaim := { program := "ytinbpjodheceoaadoor", sum := "8ad181261fcd57ae7dac30461ed4b56f7d121e81124d8e51eab94f71d518d072", func := "blotter/blotterlaw03.ChangeOnce", spec := "changeOnce", inPlace := ["internal/bytealg.IndexByteString"], unfollowed := true, recurses := true, named := ["unicode/utf8.first", "unicode/utf8.acceptRanges"], apart := false, laid := [("unicode/utf8.acceptRanges", laid_unicode_utf8_acceptRanges), ("unicode/utf8.first", laid_unicode_utf8_first)], narrowed := true }
def ChangeOnceUptoSaid : Prop := changeOnceUptoRow.holds Tryd.pinned (OpenSpec.upto changeOnceSpec)

/-- 'blotterlaw03.ChangeParts', WHERE WHAT IT READS IS OF BULK AT MOST 1048576: true; the input reads as it did. -/
def changePartsUptoRow : OpenClaim := { program := "ytinbpjodheceoaadoor", sum := "8ad181261fcd57ae7dac30461ed4b56f7d121e81124d8e51eab94f71d518d072", func := "blotter/blotterlaw03.ChangeParts", spec := "changeParts", inPlace := ["internal/bytealg.IndexByteString"], unfollowed := true, recurses := true, named := ["unicode/utf8.first", "unicode/utf8.acceptRanges"], apart := false, laid := [("unicode/utf8.acceptRanges", laid_unicode_utf8_acceptRanges), ("unicode/utf8.first", laid_unicode_utf8_first)], narrowed := true }
def ChangePartsUptoSaid : Prop := changePartsUptoRow.holds Tryd.pinned (OpenSpec.upto changePartsSpec)

/-- 'blotterlaw03.ChangeRights', WHERE WHAT IT READS IS OF BULK AT MOST 1048576: true; the input reads as it did. -/
def changeRightsUptoRow : OpenClaim := { program := "ytinbpjodheceoaadoor", sum := "8ad181261fcd57ae7dac30461ed4b56f7d121e81124d8e51eab94f71d518d072", func := "blotter/blotterlaw03.ChangeRights", spec := "changeRights", inPlace := ["internal/bytealg.IndexByteString"], unfollowed := true, recurses := true, named := ["unicode/utf8.first", "unicode/utf8.acceptRanges"], apart := false, laid := [("unicode/utf8.acceptRanges", laid_unicode_utf8_acceptRanges), ("unicode/utf8.first", laid_unicode_utf8_first)], narrowed := true }
def ChangeRightsUptoSaid : Prop := changeRightsUptoRow.holds Tryd.pinned (OpenSpec.upto changeRightsSpec)

/-- 'blotterlaw03.ChangeNothing', WHERE WHAT IT READS IS OF BULK AT MOST 1048576: true; the input reads as it did. -/
def changeNothingUptoRow : OpenClaim := { program := "ytinbpjodheceoaadoor", sum := "8ad181261fcd57ae7dac30461ed4b56f7d121e81124d8e51eab94f71d518d072", func := "blotter/blotterlaw03.ChangeNothing", spec := "changeNothing", inPlace := ["internal/bytealg.IndexByteString"], unfollowed := true, recurses := true, named := ["unicode/utf8.first", "unicode/utf8.acceptRanges"], apart := false, laid := [("unicode/utf8.acceptRanges", laid_unicode_utf8_acceptRanges), ("unicode/utf8.first", laid_unicode_utf8_first)], narrowed := true }
def ChangeNothingUptoSaid : Prop := changeNothingUptoRow.holds Tryd.pinned (OpenSpec.upto changeNothingSpec)

/-- 'blotterlaw03.ChangeNormals', WHERE WHAT IT READS IS OF BULK AT MOST 1048576: true; the input reads as it did. -/
def changeNormalsUptoRow : OpenClaim := { program := "ytinbpjodheceoaadoor", sum := "8ad181261fcd57ae7dac30461ed4b56f7d121e81124d8e51eab94f71d518d072", func := "blotter/blotterlaw03.ChangeNormals", spec := "changeNormals", inPlace := ["internal/bytealg.IndexByteString"], unfollowed := true, recurses := true, named := ["unicode/utf8.first", "unicode/utf8.acceptRanges"], apart := false, laid := [("unicode/utf8.acceptRanges", laid_unicode_utf8_acceptRanges), ("unicode/utf8.first", laid_unicode_utf8_first)], narrowed := true }
def ChangeNormalsUptoSaid : Prop := changeNormalsUptoRow.holds Tryd.pinned (OpenSpec.upto changeNormalsSpec)

/-- 'blotterlaw03.ChangeLonger', WHERE WHAT IT READS IS OF BULK AT MOST 1048576: true; the input reads as it did. -/
def changeLongerUptoRow : OpenClaim := { program := "ytinbpjodheceoaadoor", sum := "8ad181261fcd57ae7dac30461ed4b56f7d121e81124d8e51eab94f71d518d072", func := "blotter/blotterlaw03.ChangeLonger", spec := "changeLonger", inPlace := ["internal/bytealg.IndexByteString"], unfollowed := true, recurses := true, named := ["unicode/utf8.first", "unicode/utf8.acceptRanges"], apart := false, laid := [("unicode/utf8.acceptRanges", laid_unicode_utf8_acceptRanges), ("unicode/utf8.first", laid_unicode_utf8_first)], narrowed := true }
def ChangeLongerUptoSaid : Prop := changeLongerUptoRow.holds Tryd.pinned (OpenSpec.upto changeLongerSpec)

/-- 'blotterlaw08.AnchorMoves', WHERE WHAT IT READS IS OF BULK AT MOST 1048576: true; the input reads as it did. -/
def anchorMovesUptoRow : OpenClaim := { program := "ytinbpjodheceoaadoor", sum := "8ad181261fcd57ae7dac30461ed4b56f7d121e81124d8e51eab94f71d518d072", func := "blotter/blotterlaw08.AnchorMoves", spec := "anchorMoves", inPlace := ["internal/bytealg.IndexByteString"], unfollowed := true, recurses := true, named := ["unicode/utf8.first", "unicode/utf8.acceptRanges"], apart := false, laid := [("unicode/utf8.acceptRanges", laid_unicode_utf8_acceptRanges), ("unicode/utf8.first", laid_unicode_utf8_first)], narrowed := true }
def AnchorMovesUptoSaid : Prop := anchorMovesUptoRow.holds Tryd.pinned (OpenSpec.upto anchorMovesSpec)

/-- 'blotterlaw08.AnchorHolds', WHERE WHAT IT READS IS OF BULK AT MOST 1048576: true; the input reads as it did. -/
def anchorHoldsUptoRow : OpenClaim := { program := "ytinbpjodheceoaadoor", sum := "8ad181261fcd57ae7dac30461ed4b56f7d121e81124d8e51eab94f71d518d072", func := "blotter/blotterlaw08.AnchorHolds", spec := "anchorHolds", inPlace := ["internal/bytealg.IndexByteString"], unfollowed := true, recurses := true, named := ["unicode/utf8.first", "unicode/utf8.acceptRanges"], apart := false, laid := [("unicode/utf8.acceptRanges", laid_unicode_utf8_acceptRanges), ("unicode/utf8.first", laid_unicode_utf8_first)], narrowed := true }
def AnchorHoldsUptoSaid : Prop := anchorHoldsUptoRow.holds Tryd.pinned (OpenSpec.upto anchorHoldsSpec)

/-- 'blotterlaw08.AnchorApart', WHERE WHAT IT READS IS OF BULK AT MOST 1048576: true; the input reads as it did. -/
def anchorApartUptoRow : OpenClaim := { program := "ytinbpjodheceoaadoor", sum := "8ad181261fcd57ae7dac30461ed4b56f7d121e81124d8e51eab94f71d518d072", func := "blotter/blotterlaw08.AnchorApart", spec := "anchorApart", inPlace := ["internal/bytealg.IndexByteString"], unfollowed := true, recurses := true, named := ["unicode/utf8.first", "unicode/utf8.acceptRanges"], apart := false, laid := [("unicode/utf8.acceptRanges", laid_unicode_utf8_acceptRanges), ("unicode/utf8.first", laid_unicode_utf8_first)], narrowed := true }
def AnchorApartUptoSaid : Prop := anchorApartUptoRow.holds Tryd.pinned (OpenSpec.upto anchorApartSpec)

end Rows
end Go.Proofs.YtinbpjodheceoaaDoor
