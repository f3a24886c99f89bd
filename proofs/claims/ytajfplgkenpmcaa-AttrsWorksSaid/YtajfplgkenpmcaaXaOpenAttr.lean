/- Attributes, read as an argument. -/
import Derived.Test.YtajfplgkenpmcaaXaOpen
import Derived.Test.YtajfplgkenpmcaaXaSp0
namespace Go.Proofs.Ytajfplgkenpmcaa.Open
open Go.RowKit Go.Proofs.YtajfplgkenpmcaaW.PrintWords Go.Proofs.Ytajfplgkenpmcaa.Sp
def GoodAttr (a : S36) : Prop := a.f0.size ≤ 140737488351232 ∧ a.f1.size ≤ 140737488351232
def GoodAttrs (l : List S36) : Prop := l.length * 32 ≤ 140737488351232 ∧ l.length ≤ 9223372036854775807 ∧ ∀ x ∈ l, GoodAttr x
theorem opens_attr : Opens Try.prog 36 k36 GoodAttr :=
  Opens.mono (Opens.iso (opens_struct Try.underlying36 (by kernel_rfl) (opensF_cons (opens_string Try.underlying9) rfl (by kernel_rfl) (opensF_one (opens_string Try.underlying9) rfl (by kernel_rfl))))
    (fun x : S36 => (x.f0, x.f1)) (fun p => ⟨p.1, p.2⟩) (fun _ => rfl)) (fun _ h => h)
theorem opens_attrs : Opens Try.prog 22 (Kd.slice 36 k36) GoodAttrs :=
  opens_slice 36 Try.underlying22 (by kernel_rfl) (by kernel_rfl) opens_attr
end Go.Proofs.Ytajfplgkenpmcaa.Open
