/- What every row of this seat shares: how changesets are read as arguments; the two tables of unicode/utf8, read; a world in which they lie. -/
import Derived.Test.YtinbpjodheceoaaDoorXgOpen
import Derived.Test.YtinbpjodheceoaaDoorXgSp3
import Derived.Test.YtinbpjodheceoaaDoorXgSemC
import Derived.Test.YtinbpjodheceoaaDoorRows
import Derived.Test.YtinbpjodheceoaaDoorXgShelf
import Derived.Lib.LaidIn
import Derived.Lib.LaidU8T
import Derived.Deep.DeepHandedRow
import Derived.Deep.DeepWitnessRowRef
import Derived.ProofKit
import Derived.SizedLaws
namespace Go.Proofs.YtinbpjodheceoaaDoor.Open
open Go.Shelf Go.ChangeShapes Go.WideShapes Go.ChangeAt Go.RowKit Go.Lib Go.Proofs.YtinbpjodheceoaaDoorW.PrintWords Go.Proofs.YtinbpjodheceoaaDoor.Sp Go.Proofs.YtinbpjodheceoaaDoor.Sem
set_option linter.unusedVariables false
def GoodAttr (a : S90) : Prop := a.f0.size ≤ 140737488351232 ∧ a.f1.size ≤ 140737488351232
def GoodAttrs (l : List S90) : Prop := l.length * 32 ≤ 140737488351232 ∧ l.length ≤ 9223372036854775807 ∧ ∀ x ∈ l, GoodAttr x
theorem opens_attr : Opens Tryd.prog 90 k90 GoodAttr :=
 Opens.mono (Opens.iso (opens_struct Tryd.underlying90 (by kernel_rfl) (opensF_cons (opens_string Tryd.underlying9) rfl (by kernel_rfl) (opensF_one (opens_string Tryd.underlying9) rfl (by kernel_rfl))))
  (fun x : S90 => (x.f0, x.f1)) (fun p => ⟨p.1, p.2⟩) (fun _ => rfl)) (fun _ h => h)
theorem opens_attrs : Opens Tryd.prog 41 (Kd.slice 90 k90) GoodAttrs :=
 opens_slice 90 Tryd.underlying41 (by kernel_rfl) (by kernel_rfl) opens_attr
theorem opens_op : Opens Tryd.prog 43 k43 GoodOp :=
 Opens.mono (Opens.iso (opens_struct Tryd.underlying43 (by kernel_rfl) (opensF_cons (opens_int Tryd.underlying3) rfl (by kernel_rfl) (opensF_cons (opens_int Tryd.underlying3) rfl (by kernel_rfl) (opensF_cons (opens_string Tryd.underlying9) rfl (by kernel_rfl) (opensF_one opens_attrs rfl (by kernel_rfl))))))
  (fun x : S43 => (x.f0, x.f1, x.f2, x.f3)) (fun p => ⟨p.1, p.2.1, p.2.2.1, p.2.2.2⟩) (fun _ => rfl)) (fun _ h => ⟨h.2.2.1, h.2.2.2.1, h.2.2.2.2.1, h.2.2.2.2.2⟩)
def GoodOpsA (l : List S43) : Prop := l.length * 56 ≤ 140737488351232 ∧ l.length ≤ 9223372036854775807 ∧ ∀ o ∈ l, GoodOp o
theorem opens_ops : Opens Tryd.prog 24 (Kd.slice 43 k43) GoodOpsA :=
 opens_slice 43 Tryd.underlying24 (by kernel_rfl) (by kernel_rfl) opens_op
theorem opens_change : Opens Tryd.prog 26 k26 (fun c => (Lit.int .i64 c.f0).wf = true ∧ GoodOps c.f1) :=
 Opens.mono (Opens.iso (opens_struct Tryd.underlying26 (by kernel_rfl) (opensF_cons (opens_int Tryd.underlying3) rfl (by kernel_rfl) (opensF_one opens_ops rfl (by kernel_rfl))))
  (fun x : S26 => (x.f0, x.f1)) (fun p => ⟨p.1, p.2⟩) (fun _ => rfl)) (fun _ h => ⟨h.1, h.2.1, h.2.2.2⟩)
theorem opens_range : Opens Tryd.prog 23 (Kd.pair (Kd.int .i64) (Kd.pair (Kd.int .i64) Kd.bool)) (fun r => (Lit.int .i64 r.1).wf = true ∧ (Lit.int .i64 r.2.1).wf = true) :=
 Opens.mono (opens_struct Tryd.underlying23 (by kernel_rfl) (opensF_cons (opens_int Tryd.underlying3) rfl (by kernel_rfl) (opensF_cons (opens_int Tryd.underlying3) rfl (by kernel_rfl) (opensF_one (opens_bool Tryd.underlying4) rfl (by kernel_rfl)))))
  (fun _ h => ⟨h.1, h.2.1⟩)
def laidList : List (String × DataW Unit) := [("unicode/utf8.acceptRanges", Rows.laid_unicode_utf8_acceptRanges), ("unicode/utf8.first", Rows.laid_unicode_utf8_first)]
theorem accept_eq : (Rows.laid_unicode_utf8_acceptRanges : DataW Unit) = Lib.acceptData := by kernel_rfl
theorem first_eq : Rows.laid_unicode_utf8_first = Lib.firstData := by kernel_rfl
theorem tabs_of {W : World} (hL : laidMetH Tryd.prog laidList W) : Tabs W :=
 utf8Tabs_of_readsT (U8Types.of196 Tryd.laysValid) ⟨by kernel_rfl, by kernel_rfl, by kernel_rfl, by kernel_rfl, by kernel_rfl, by kernel_rfl, by kernel_rfl⟩
  (by rw [← first_eq]; exact Lib.laidMet.reads hL (.tail _ (.head _))) (by rw [← accept_eq]; exact Lib.laidMet.reads hL (.head _))
noncomputable def laidWorld (os : Os) : World :=
 let w0 := World.holding Tryd.prog os ⟨#[], #[], []⟩
 let put (h : Array Obj) (g : Nat) (cs : Array Value) : Array Obj := h.modify g fun
  | .cells _ t frozen => .cells cs t frozen
  | o => o
 let h1 := put w0.heap 0 (Lib.firstTab.map fun z => Value.int .u8 z).toArray
 let h2 := put h1 1 ((List.range 16).flatMap fun i => [Value.int .u8 (Lib.accLo i), Value.int .u8 (Lib.accHi i)]).toArray
 { w0 with heap := h2 }
theorem laid_met (os : Os) (args : Array Value) : laidMet Tryd.prog laidList ((laidWorld os).forCall (fun _ _ => 0) ⟨#[], args, []⟩).memory :=
 (LaidIn.of_run (l := laidList) [0, 1] 8 (by kernel_rfl) (by kernel_rfl) (by kernel_rfl) (by kernel_rfl)).met
theorem own : ownKnob Tryd.prog.godebug = none := by kernel_rfl
theorem laidOut : laidOutB Tryd.prog = true := by kernel_rfl
end Go.Proofs.YtinbpjodheceoaaDoor.Open
