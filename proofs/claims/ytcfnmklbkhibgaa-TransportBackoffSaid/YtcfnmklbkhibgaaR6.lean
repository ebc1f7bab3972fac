/- TransportBackoff: the row. -/
import Derived.Test.YtcfnmklbkhibgaaR5
namespace Go.Proofs.Ytcfnmklbkhibgaa
open Go.ChangeShapes Go.WideShapes Go.ChangeAt Go.RowKit Go.Deep

set_option maxRecDepth 100000 in
set_option maxRecDepth 100000 in
theorem transportBackoff_lifted (os : Os) (started : os.Started) (H : Type) (enc : TypeId × Value → H) :
    ReturnsInHanded {} Try.checked os 3 .any (Rows.transportBackoffSpec.pre6 enc Try.prog Try.f3 Rows.transportBackoffRow.domain false) (Rows.transportBackoffSpec.post enc Try.prog Try.f3 false true false false) := by
  refine law_lifted started Rows.transportBackoffSpec rfl (by kernel_rfl) Try.func3 rfl
    (fun ds h => by match ds, h with | [_, _], _ => rfl) (of_decide_eq_true (by kernel_rfl))
    (ChangeSpec.witness6 (enc := enc) (C := Try.checked) false ⟨#[], #[.int .u8 0, .int .u16 0], []⟩ 8 (by kernel_rfl) (by kernel_rfl) (by kernel_rfl) (by kernel_rfl)) ?_
  intro W base args ds p hval hA
  rw [Try.params3] at hA hval
  obtain ⟨v0, v1, d0, d1, p0, p1, rfl, rfl, rfl, h0, h1⟩ := trodAll_two hA
  have g0 := hval 0 _ v0 rfl rfl
  have g1 := hval 1 _ v1 rfl rfl
  obtain ⟨x, rfl, hx⟩ := (opn_u8i (W := W) Try.underlying5 (by kernel_rfl)).one (one_int Try.underlying5 g0) h0
  obtain ⟨y, rfl, hy⟩ := (opn_u16 (W := W) Try.underlying22 (by kernel_rfl)).one (one_int Try.underlying22 g1) h1
  exact backoff_walk x y W.heap hx hy
set_option maxRecDepth 100000 in
theorem transportBackoff_holds : Rows.TransportBackoffSaid :=
  OpenClaim.holds_of_wide 3 Try.f3 rfl rfl rfl rfl rfl rfl rfl ⟨rfl, rfl, rfl, rfl, rfl⟩ rfl rfl rfl rfl rfl (by kernel_rfl) Try.func3 (by kernel_rfl)
    (of_decide_eq_true (by kernel_rfl)) (by unfold Func.isWrapper; first | (rw [if_pos (by decide +kernel)]; kernel_rfl) | (rw [if_neg (by decide +kernel)]; exact ⟨rfl, rfl⟩))
    (fun os started H enc _ => transportBackoff_lifted os started H enc)
end Go.Proofs.Ytcfnmklbkhibgaa
