/-
  No cell of these rows narrows 'for every input' (looked for: loops, veiled, ifaces, maps, wideKeys, modest, calm, conditions, laid).
  DERIVED. THE GIVEN ROWS OF THIS SEAT. 6 by the template 'for every input the law returns true; each argument reads behind the call as it read before'; 0 by the template 'total and deterministic' (their statements: YtajfplgkenpmcaaTotals.lean).
  GIVEN WITH THE SEED: the statements are not yours to turn. If you find one false, say at which input.
  Laid BY PROGRAM, IN A SANDBOX (cutbox-rows.mjs): the forced cells as the released guide's own fill.sh prints them over the translation 1540c28ed348b82d… (all of the seat's roots in one cut). By AI agents, Wed Nov 11 2026. No macro, syntax, notation, axiom, sorry.
-/
import Derived.Test.YtajfplgkenpmcaaChecked
import GoSem.Claim
import GoSem.ClaimJoined
import GoSem.ClaimMapViews
import Derived.JoinedTies
import Derived.KernelRfl
namespace Go.Proofs.Ytajfplgkenpmcaa
/- THE CELL 'sum', in the pinned program and in every row, IS THE sha256 OF THE DUMP (.gsa) THAT YtajfplgkenpmcaaProg.lean LOADS. Nothing in Lean hashes anything: it is a label: what it is worth is what the hold of that sum in a sandbox is worth. -/
noncomputable def Try.pinned : Pinned := { name := "ytajfplgkenpmcaa", sum := "1540c28ed348b82df533d247f0958620088e38d3ba4faa114e48ea0343fb8ed6", checked := Try.checked }
namespace Rows
def none {H : Type} : Left H := { results := [], args := [] }

/-- 'blotterlaw02.AttrsWorks': WHATEVER THE INPUT: true; the input reads as it did. -/
def attrsWorksSpec : ChangeSpec := { name := "attrsWorks", fn := fun _ => fun
  | [d1, d2, d3] => { results := [.lit (.bool true)], args := [d1, d2, d3] }
  | _ => none }
def attrsWorksRow : OpenClaim := { program := "ytajfplgkenpmcaa", sum := "1540c28ed348b82df533d247f0958620088e38d3ba4faa114e48ea0343fb8ed6", func := "blotter/blotterlaw02.AttrsWorks", spec := "attrsWorks", inPlace := ["internal/bytealg.IndexByteString"], unfollowed := true, recurses := true, apart := false }
def AttrsWorksSaid : Prop := attrsWorksRow.holds Try.pinned (OpenSpec.ofChange attrsWorksSpec)

/-- ITS FALSE NEIGHBOUR: 'it returns false'. Refute it at one input. -/
def attrsWorksWrong : ChangeSpec := { name := "attrsWorks", fn := fun _ => fun
  | [d1, d2, d3] => { results := [.lit (.bool false)], args := [d1, d2, d3] }
  | _ => none }
def AttrsWorksWrongFalsely : Prop := attrsWorksRow.holds Try.pinned (OpenSpec.ofChange attrsWorksWrong)

/-- 'blotterlaw02.AttrsRights': WHATEVER THE INPUT: true; the input reads as it did. -/
def attrsRightsSpec : ChangeSpec := { name := "attrsRights", fn := fun _ => fun
  | [d1, d2] => { results := [.lit (.bool true)], args := [d1, d2] }
  | _ => none }
def attrsRightsRow : OpenClaim := { program := "ytajfplgkenpmcaa", sum := "1540c28ed348b82df533d247f0958620088e38d3ba4faa114e48ea0343fb8ed6", func := "blotter/blotterlaw02.AttrsRights", spec := "attrsRights", inPlace := ["internal/bytealg.IndexByteString"], unfollowed := true, recurses := true, apart := false }
def AttrsRightsSaid : Prop := attrsRightsRow.holds Try.pinned (OpenSpec.ofChange attrsRightsSpec)

/-- ITS FALSE NEIGHBOUR: 'it returns false'. Refute it at one input. -/
def attrsRightsWrong : ChangeSpec := { name := "attrsRights", fn := fun _ => fun
  | [d1, d2] => { results := [.lit (.bool false)], args := [d1, d2] }
  | _ => none }
def AttrsRightsWrongFalsely : Prop := attrsRightsRow.holds Try.pinned (OpenSpec.ofChange attrsRightsWrong)

/-- 'blotterlaw02.AttrsMeets': WHATEVER THE INPUT: true; the input reads as it did. -/
def attrsMeetsSpec : ChangeSpec := { name := "attrsMeets", fn := fun _ => fun
  | [d1, d2, d3, d4] => { results := [.lit (.bool true)], args := [d1, d2, d3, d4] }
  | _ => none }
def attrsMeetsRow : OpenClaim := { program := "ytajfplgkenpmcaa", sum := "1540c28ed348b82df533d247f0958620088e38d3ba4faa114e48ea0343fb8ed6", func := "blotter/blotterlaw02.AttrsMeets", spec := "attrsMeets", inPlace := ["internal/bytealg.IndexByteString"], unfollowed := true, recurses := true, apart := false }
def AttrsMeetsSaid : Prop := attrsMeetsRow.holds Try.pinned (OpenSpec.ofChange attrsMeetsSpec)

/-- ITS FALSE NEIGHBOUR: 'it returns false'. Refute it at one input. -/
def attrsMeetsWrong : ChangeSpec := { name := "attrsMeets", fn := fun _ => fun
  | [d1, d2, d3, d4] => { results := [.lit (.bool false)], args := [d1, d2, d3, d4] }
  | _ => none }
def AttrsMeetsWrongFalsely : Prop := attrsMeetsRow.holds Try.pinned (OpenSpec.ofChange attrsMeetsWrong)

/-- 'blotterlaw02.AttrsBack': WHATEVER THE INPUT: true; the input reads as it did. -/
def attrsBackSpec : ChangeSpec := { name := "attrsBack", fn := fun _ => fun
  | [d1, d2, d3] => { results := [.lit (.bool true)], args := [d1, d2, d3] }
  | _ => none }
def attrsBackRow : OpenClaim := { program := "ytajfplgkenpmcaa", sum := "1540c28ed348b82df533d247f0958620088e38d3ba4faa114e48ea0343fb8ed6", func := "blotter/blotterlaw02.AttrsBack", spec := "attrsBack", inPlace := ["internal/bytealg.IndexByteString"], unfollowed := true, recurses := true, apart := false }
def AttrsBackSaid : Prop := attrsBackRow.holds Try.pinned (OpenSpec.ofChange attrsBackSpec)

/-- ITS FALSE NEIGHBOUR: 'it returns false'. Refute it at one input. -/
def attrsBackWrong : ChangeSpec := { name := "attrsBack", fn := fun _ => fun
  | [d1, d2, d3] => { results := [.lit (.bool false)], args := [d1, d2, d3] }
  | _ => none }
def AttrsBackWrongFalsely : Prop := attrsBackRow.holds Try.pinned (OpenSpec.ofChange attrsBackWrong)

/-- 'blotterlaw02.AttrsNothing': WHATEVER THE INPUT: true; the input reads as it did. -/
def attrsNothingSpec : ChangeSpec := { name := "attrsNothing", fn := fun _ => fun
  | [d1, d2, d3] => { results := [.lit (.bool true)], args := [d1, d2, d3] }
  | _ => none }
def attrsNothingRow : OpenClaim := { program := "ytajfplgkenpmcaa", sum := "1540c28ed348b82df533d247f0958620088e38d3ba4faa114e48ea0343fb8ed6", func := "blotter/blotterlaw02.AttrsNothing", spec := "attrsNothing", inPlace := ["internal/bytealg.IndexByteString"], unfollowed := true, recurses := true, apart := false }
def AttrsNothingSaid : Prop := attrsNothingRow.holds Try.pinned (OpenSpec.ofChange attrsNothingSpec)

/-- ITS FALSE NEIGHBOUR: 'it returns false'. Refute it at one input. -/
def attrsNothingWrong : ChangeSpec := { name := "attrsNothing", fn := fun _ => fun
  | [d1, d2, d3] => { results := [.lit (.bool false)], args := [d1, d2, d3] }
  | _ => none }
def AttrsNothingWrongFalsely : Prop := attrsNothingRow.holds Try.pinned (OpenSpec.ofChange attrsNothingWrong)

/-- 'blotterlaw02.AttrsThree': WHATEVER THE INPUT: true; the input reads as it did. -/
def attrsThreeSpec : ChangeSpec := { name := "attrsThree", fn := fun _ => fun
  | [d1, d2, d3] => { results := [.lit (.bool true)], args := [d1, d2, d3] }
  | _ => none }
def attrsThreeRow : OpenClaim := { program := "ytajfplgkenpmcaa", sum := "1540c28ed348b82df533d247f0958620088e38d3ba4faa114e48ea0343fb8ed6", func := "blotter/blotterlaw02.AttrsThree", spec := "attrsThree", inPlace := ["internal/bytealg.IndexByteString"], unfollowed := true, recurses := true, apart := false }
def AttrsThreeSaid : Prop := attrsThreeRow.holds Try.pinned (OpenSpec.ofChange attrsThreeSpec)

/-- ITS FALSE NEIGHBOUR: 'it returns false'. Refute it at one input. -/
def attrsThreeWrong : ChangeSpec := { name := "attrsThree", fn := fun _ => fun
  | [d1, d2, d3] => { results := [.lit (.bool false)], args := [d1, d2, d3] }
  | _ => none }
def AttrsThreeWrongFalsely : Prop := attrsThreeRow.holds Try.pinned (OpenSpec.ofChange attrsThreeWrong)

/- THE SECOND FORM. 'bulk': how many values and letters a reading holds, each counted each time it is reached (what is shared counts as often as it is met; a slice's spare places count too). A statement '..UptoSaid' is the law's where the arguments, and the package variables that the reading takes, are together of bulk at most 1048576: NARROWER than '..Said'. Prove '..Said' where nothing that the law and all that it calls make is longer than what came in: it says more and counts as full. Else prove '..UptoSaid'. A law counts once. -/
mutual
def uptoBulk {H : Type} : DataW H → Nat
  | .lit (.string bytes) => bytes.length + 1
  | .lit _ => 1
  | .nil => 1
  | .ptr d => uptoBulk d + 1
  | .slice elems spare => uptoBulkAll elems + uptoBulkAll spare + 1
  | .agg parts => uptoBulkAll parts + 1
  | .iface _ d => uptoBulk d + 1
  | .map entries => uptoBulkEntries entries + 1
  | .held _ => 1
def uptoBulkAll {H : Type} : List (DataW H) → Nat
  | [] => 0
  | d :: r => uptoBulk d + uptoBulkAll r
def uptoBulkEntries {H : Type} : List (Lit × DataW H) → Nat
  | [] => 0
  | x :: r => uptoBulkEntry x + uptoBulkEntries r
def uptoBulkEntry {H : Type} : Lit × DataW H → Nat
  | (.string bytes, d) => bytes.length + uptoBulk d + 1
  | (_, d) => uptoBulk d + 1
 end
def uptoSmall : (H : Type) → List (DataW H) → Bool := fun _ ds => decide (uptoBulkAll ds ≤ 1048576)
def OpenSpec.upto (s : _root_.Go.ChangeSpec) : _root_.Go.OpenSpec := { _root_.Go.OpenSpec.ofChange s with cond := some uptoSmall }

/-- 'blotterlaw02.AttrsWorks', WHERE WHAT IT READS IS OF BULK AT MOST 1048576: true; the input reads as it did. -/
def attrsWorksUptoRow : OpenClaim := { program := "ytajfplgkenpmcaa", sum := "1540c28ed348b82df533d247f0958620088e38d3ba4faa114e48ea0343fb8ed6", func := "blotter/blotterlaw02.AttrsWorks", spec := "attrsWorks", inPlace := ["internal/bytealg.IndexByteString"], unfollowed := true, recurses := true, apart := false, narrowed := true }
def AttrsWorksUptoSaid : Prop := attrsWorksUptoRow.holds Try.pinned (OpenSpec.upto attrsWorksSpec)

/-- 'blotterlaw02.AttrsRights', WHERE WHAT IT READS IS OF BULK AT MOST 1048576: true; the input reads as it did. -/
def attrsRightsUptoRow : OpenClaim := { program := "ytajfplgkenpmcaa", sum := "1540c28ed348b82df533d247f0958620088e38d3ba4faa114e48ea0343fb8ed6", func := "blotter/blotterlaw02.AttrsRights", spec := "attrsRights", inPlace := ["internal/bytealg.IndexByteString"], unfollowed := true, recurses := true, apart := false, narrowed := true }
def AttrsRightsUptoSaid : Prop := attrsRightsUptoRow.holds Try.pinned (OpenSpec.upto attrsRightsSpec)

/-- 'blotterlaw02.AttrsMeets', WHERE WHAT IT READS IS OF BULK AT MOST 1048576: true; the input reads as it did. -/
def attrsMeetsUptoRow : OpenClaim := { program := "ytajfplgkenpmcaa", sum := "1540c28ed348b82df533d247f0958620088e38d3ba4faa114e48ea0343fb8ed6", func := "blotter/blotterlaw02.AttrsMeets", spec := "attrsMeets", inPlace := ["internal/bytealg.IndexByteString"], unfollowed := true, recurses := true, apart := false, narrowed := true }
def AttrsMeetsUptoSaid : Prop := attrsMeetsUptoRow.holds Try.pinned (OpenSpec.upto attrsMeetsSpec)

/-- 'blotterlaw02.AttrsBack', WHERE WHAT IT READS IS OF BULK AT MOST 1048576: true; the input reads as it did. -/
def attrsBackUptoRow : OpenClaim := { program := "ytajfplgkenpmcaa", sum := "1540c28ed348b82df533d247f0958620088e38d3ba4faa114e48ea0343fb8ed6", func := "blotter/blotterlaw02.AttrsBack", spec := "attrsBack", inPlace := ["internal/bytealg.IndexByteString"], unfollowed := true, recurses := true, apart := false, narrowed := true }
def AttrsBackUptoSaid : Prop := attrsBackUptoRow.holds Try.pinned (OpenSpec.upto attrsBackSpec)

/-- 'blotterlaw02.AttrsNothing', WHERE WHAT IT READS IS OF BULK AT MOST 1048576: true; the input reads as it did. -/
def attrsNothingUptoRow : OpenClaim := { program := "ytajfplgkenpmcaa", sum := "1540c28ed348b82df533d247f0958620088e38d3ba4faa114e48ea0343fb8ed6", func := "blotter/blotterlaw02.AttrsNothing", spec := "attrsNothing", inPlace := ["internal/bytealg.IndexByteString"], unfollowed := true, recurses := true, apart := false, narrowed := true }
def AttrsNothingUptoSaid : Prop := attrsNothingUptoRow.holds Try.pinned (OpenSpec.upto attrsNothingSpec)

/-- 'blotterlaw02.AttrsThree', WHERE WHAT IT READS IS OF BULK AT MOST 1048576: true; the input reads as it did. -/
def attrsThreeUptoRow : OpenClaim := { program := "ytajfplgkenpmcaa", sum := "1540c28ed348b82df533d247f0958620088e38d3ba4faa114e48ea0343fb8ed6", func := "blotter/blotterlaw02.AttrsThree", spec := "attrsThree", inPlace := ["internal/bytealg.IndexByteString"], unfollowed := true, recurses := true, apart := false, narrowed := true }
def AttrsThreeUptoSaid : Prop := attrsThreeUptoRow.holds Try.pinned (OpenSpec.upto attrsThreeSpec)

end Rows
end Go.Proofs.Ytajfplgkenpmcaa
