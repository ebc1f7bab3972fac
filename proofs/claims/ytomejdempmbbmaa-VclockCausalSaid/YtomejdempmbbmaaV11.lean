/- VclockCausal: the row. -/
import Derived.Test.YtomejdempmbbmaaV10
import Derived.Test.YtomejdempmbbmaaLH
namespace Go.Proofs.Ytomejdempmbbmaa
open Go.ChangeShapes Go.WideShapes Go.ChangeAt Go.RowKit Go.Deep

theorem opn_act (W : World) : Opn W 53 2 eAct.F (fun _ => True) :=
  (opn_struct Try.underlying53 (by kernel_rfl) (opnF_cons rfl (opn_byte Try.underlying5 (by kernel_rfl)) (opnF_cons rfl (opn_byte Try.underlying5 (by kernel_rfl)) (opnF_nil rfl)))).map (fun a : UInt8 × UInt8 × Unit => (a.1, a.2.1)) (fun _ => rfl) (fun _ _ => trivial)
set_option maxRecDepth 100000 in
theorem vclockCausal_lifted (os : Os) (started : os.Started) (H : Type) (enc : TypeId × Value → H) :
    ReturnsInHanded {} Try.checked os 8 .any (Rows.vclockCausalSpec.pre6 enc Try.prog Try.f8 Rows.vclockCausalRow.domain false) (Rows.vclockCausalSpec.post enc Try.prog Try.f8 false true false false) := by
  refine law_lifted started Rows.vclockCausalSpec rfl (by kernel_rfl) Try.func8 rfl
    (fun ds h => by match ds, h with | [_], _ => rfl) (of_decide_eq_true (by kernel_rfl))
    (ChangeSpec.witness6 (enc := enc) (C := Try.checked) false ⟨#[], #[.slice none 0 0], []⟩ 8 (by kernel_rfl) (by kernel_rfl) (by kernel_rfl) (by kernel_rfl)) ?_
  intro W base args ds p hval hA
  rw [Try.params8] at hA hval
  obtain ⟨v0, d0, rfl, rfl, h0⟩ := trodAll_one hA
  have g0 := hval 0 _ v0 rfl rfl
  obtain ⟨⟨A, c, l⟩, rfl, hA, _⟩ := (opn_slice (c := eAct) Try.underlying49 (by kernel_rfl) (opn_act W)).one (one_slice Try.underlying49 g0) h0
  exact causal_walk A c l W.heap hA
theorem vclockCausal_holds : Rows.VclockCausalSaid :=
  OpenClaim.holds_of_wide 8 Try.f8 rfl rfl rfl rfl rfl rfl rfl ⟨rfl, rfl, rfl, rfl, rfl⟩ rfl rfl rfl rfl rfl (by kernel_rfl) Try.func8 (by kernel_rfl)
    (of_decide_eq_true (by kernel_rfl)) (by unfold Func.isWrapper; first | (rw [if_pos (by decide +kernel)]; kernel_rfl) | (rw [if_neg (by decide +kernel)]; exact ⟨rfl, rfl⟩))
    (fun os started H enc _ => vclockCausal_lifted os started H enc)
end Go.Proofs.Ytomejdempmbbmaa
