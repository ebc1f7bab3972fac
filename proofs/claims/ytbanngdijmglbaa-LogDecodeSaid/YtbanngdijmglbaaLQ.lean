/- The walker: scopes and labels. Nothing of the program. -/
import Derived.Test.YtbanngdijmglbaaLN
import Derived.Scope
namespace Go.Proofs.Ytbanngdijmglbaa
open Go.RowKit

section
variable {P : Program} {n : Nat} {N R : Env → Heap → Prop} {X : Nat → Env → Heap → Prop} {E : Env} {H : Heap}
theorem wpLabel {l : Nat} (h : N E H) : WP P n (.label l) N R X E H := fun w0 w hs hw => wp_label ⟨hs, E, rfl, by subst hw; exact h⟩
theorem wpScope {c : Code} (h : WP P n c N R X E H) : WP P n (.scope c) N R X E H := fun w0 w hs hw => by
  refine wp_scope_straight (Code.wp_mono ?_ (h w0 w hs hw))
  rintro e a w1 ⟨hs1, E1, rfl, h1⟩
  cases e with
  | normal => exact ⟨hs1, E1, rfl, h1⟩
  | ret => exact ⟨hs1, E1, rfl, h1⟩
  | exit i => exact ⟨hs1, E1, rfl, h1⟩
  | goto i => exact h1.elim
  | panic c => exact h1.elim
  | outgrown => exact h1.elim
end
end Go.Proofs.Ytbanngdijmglbaa
