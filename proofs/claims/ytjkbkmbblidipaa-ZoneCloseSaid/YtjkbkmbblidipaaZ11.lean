/- ZoneClose: Close, Model and Range return the specified results for any zone of up to 8 variables; closing again changes nothing. Conditions: none beyond the statement's. -/
import Derived.Test.YtjkbkmbblidipaaZ10
import Derived.Test.YtjkbkmbblidipaaZA
namespace Go.Proofs.Ytjkbkmbblidipaa
open Go.ChangeShapes Go.WideShapes Go.ChangeAt Go.RowKit Go.Deep

set_option maxRecDepth 100000 in
set_option maxRecDepth 100000 in
theorem zoneClose_lifted (os : Os) (started : os.Started) (H : Type) (enc : TypeId × Value → H) :
    ReturnsInHanded {} Try.checked os 3 .any (Rows.zoneCloseSpec.pre6 enc Try.prog Try.f3 Rows.zoneCloseRow.domain false) (Rows.zoneCloseSpec.post enc Try.prog Try.f3 false true false false) := by
  refine law_lifted started Rows.zoneCloseSpec rfl (by kernel_rfl) Try.func3 rfl
    (fun ds h => by match ds, h with | [_, _], _ => rfl) (of_decide_eq_true (by kernel_rfl))
    (ChangeSpec.witness6 (enc := enc) (C := Try.checked) false ⟨#[], #[.agg #[.int .i64 0, .slice none 0 0], .int .i64 0], []⟩ 8 (by kernel_rfl) (by kernel_rfl) (by kernel_rfl) (by kernel_rfl)) ?_
  intro W base args ds p hval hA
  rw [Try.params3] at hA hval
  obtain ⟨v0, v1, d0, d1, p0, p1, rfl, rfl, rfl, h0, h1⟩ := trodAll_two hA
  have g0 := hval 0 _ v0 rfl rfl
  have g1 := hval 1 _ v1 rfl rfl
  obtain ⟨⟨z, A, ca⟩, rfl, kA, -⟩ := (opn_zn W).agg Try.underlying24 rfl g0 h0
  obtain ⟨x, rfl, -⟩ := (opn_int Try.underlying3 (by kernel_rfl)).one (one_int Try.underlying3 g1) h1
  exact zClose_walk z x A ca W.heap kA
set_option maxRecDepth 100000 in
theorem zoneClose_holds : Rows.ZoneCloseSaid :=
  OpenClaim.holds_of_wide 3 Try.f3 rfl rfl rfl rfl rfl rfl rfl ⟨rfl, rfl, rfl, rfl, rfl⟩ rfl rfl rfl rfl rfl (by kernel_rfl) Try.func3 (by kernel_rfl)
    (of_decide_eq_true (by kernel_rfl)) (by unfold Func.isWrapper; first | (rw [if_pos (by decide +kernel)]; kernel_rfl) | (rw [if_neg (by decide +kernel)]; exact ⟨rfl, rfl⟩))
    (fun os started H enc _ => zoneClose_lifted os started H enc)
end Go.Proofs.Ytjkbkmbblidipaa
