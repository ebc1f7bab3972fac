/- Zones: arguments opened. -/
import Derived.Test.YtjkbkmbblidipaaZ9
import Derived.Test.YtjkbkmbblidipaaLH
namespace Go.Proofs.Ytjkbkmbblidipaa
open Go.ChangeShapes Go.WideShapes Go.ChangeAt Go.RowKit Go.Deep

set_option maxRecDepth 100000 in
theorem opn_ints (W : World) : Opn Try.prog W 22 1 (fun a : Option Addr × Nat × List Int => [.slice a.1 a.2.2.length a.2.1]) (fun a => Rd eInt W.heap a.1 a.2.2 ∧ (∀ x ∈ a.2.2, In64 x) ∧ a.2.2.length ≤ a.2.1 ∧ a.2.1 ≤ maxLen) := opn_slice (c := eInt) Try.underlying22 (by kernel_rfl) (opn_int Try.underlying3 (by kernel_rfl))
abbrev ZnX := Zn × Option Addr × Nat
def ZnOk (W : World) (x : ZnX) : Prop := Rd eInt W.heap x.2.1 x.1.b ∧ In64 x.1.N ∧ (∀ y ∈ x.1.b, In64 y) ∧ x.1.b.length ≤ 9223372036854775807
set_option maxRecDepth 100000 in
theorem opn_zn (W : World) : Opn Try.prog W 24 2 (fun x : ZnX => znC x.1 x.2.1 x.2.2) (ZnOk W) :=
  (opn_struct Try.underlying24 (by kernel_rfl) (opnF_cons rfl (opn_int Try.underlying3 (by kernel_rfl)) (opnF_cons rfl (opn_ints W) (opnF_nil rfl)))).map
    (fun a : Int × (Option Addr × Nat × List Int) × Unit => (⟨a.1, a.2.1.2.2⟩, a.2.1.1, a.2.1.2.1)) (fun _ => rfl) (fun a ha => ⟨ha.2.1.1, ha.1, ha.2.1.2.1, by have h1 := ha.2.1.2.2.1; have h2 := ha.2.1.2.2.2; have h3 := Nat.le_trans h1 h2; unfold maxLen at h3; exact h3⟩)
end Go.Proofs.Ytjkbkmbblidipaa
