/- VclockLeast: the row. -/
import Derived.Test.YtomejdempmbbmaaV6
import Derived.Test.YtomejdempmbbmaaLH
namespace Go.Proofs.Ytomejdempmbbmaa
open Go.ChangeShapes Go.WideShapes Go.ChangeAt Go.RowKit Go.Deep

theorem opn_a3 (W : World) : Opn W 34 3 (fun l : List Int => l.map (Value.int .u16)) (fun l => l.length = 3 ∧ ∀ n ∈ l, 0 ≤ n ∧ n ≤ 65535) :=
  (opn_array Try.underlying34 (by kernel_rfl) rfl (opn_u16 (by kernel_rfl) (by kernel_rfl))).map id (fun a => by simp [flatMap_one]) (fun _ h => h)
set_option maxRecDepth 100000 in
theorem vclockLeast_lifted (os : Os) (started : os.Started) (H : Type) (enc : TypeId × Value → H) :
    ReturnsInHanded {} Try.checked os 5 .any (Rows.vclockLeastSpec.pre6 enc Try.prog Try.f5 Rows.vclockLeastRow.domain false) (Rows.vclockLeastSpec.post enc Try.prog Try.f5 false true false false) := by
  refine law_lifted started Rows.vclockLeastSpec rfl (by kernel_rfl) Try.func5 rfl
    (fun ds h => by match ds, h with | [_, _, _], _ => rfl) (of_decide_eq_true (by kernel_rfl))
    (ChangeSpec.witness6 (enc := enc) (C := Try.checked) false ⟨#[], #[.agg #[.int .u16 0, .int .u16 0, .int .u16 0], .agg #[.int .u16 0, .int .u16 0, .int .u16 0], .agg #[.int .u16 0, .int .u16 0, .int .u16 0]], []⟩ 8 (by kernel_rfl) (by kernel_rfl) (by kernel_rfl) (by kernel_rfl)) ?_
  intro W base args ds p hval hA
  rw [Try.params5] at hA hval
  obtain ⟨v0, v1, v2, d0, d1, d2, p0, p1, p2, rfl, rfl, rfl, h0, h1, h2⟩ := trodAll_three hA
  have g0 := hval 0 _ v0 rfl rfl
  have g1 := hval 1 _ v1 rfl rfl
  have g2 := hval 2 _ v2 rfl rfl
  obtain ⟨x, rfl, hx1, hx2⟩ := (opn_a3 W).agg Try.underlying34 rfl g0 h0
  obtain ⟨y, rfl, hy1, hy2⟩ := (opn_a3 W).agg Try.underlying34 rfl g1 h1
  obtain ⟨z, rfl, hz1, hz2⟩ := (opn_a3 W).agg Try.underlying34 rfl g2 h2
  exact least_walk x y z W.heap hx1 hy1 hz1 hx2 hy2 hz2
theorem vclockLeast_holds : Rows.VclockLeastSaid :=
  OpenClaim.holds_of_wide 5 Try.f5 rfl rfl rfl rfl rfl rfl rfl ⟨rfl, rfl, rfl, rfl, rfl⟩ rfl rfl rfl rfl rfl (by kernel_rfl) Try.func5 (by kernel_rfl)
    (of_decide_eq_true (by kernel_rfl)) (by unfold Func.isWrapper; first | (rw [if_pos (by decide +kernel)]; kernel_rfl) | (rw [if_neg (by decide +kernel)]; exact ⟨rfl, rfl⟩))
    (fun os started H enc _ => vclockLeast_lifted os started H enc)
end Go.Proofs.Ytomejdempmbbmaa
