/- Walks over package wire: New, Left, End, Int. -/
import Derived.Test.YtmiijlmjpaiinaaWRead
namespace Go.Proofs.Ytmiijlmjpaiinaa
open Go.RowKit

def NewPost (x : List UInt8) (w : World) (e : Ending) (w' : World) : Prop :=
  ∃ g, e = .returned (.pointer (some ⟨g, 0, none⟩)) ∧ w.heap.size ≤ g ∧ RS w' g x 0 false ∧ Ext w w'

set_option maxHeartbeats 400000 in
theorem new_c (A : Option Addr) (c : Nat) (x : List UInt8) (w : World) (hx : Rd U8 w A x) (hn : x.length ≤ 1000000) :
    Calls Try.prog 20 #[.slice A x.length c] w (NewPost x w) := by
  go_enter Try.func20, Try.ntmps20
  go_wp2_with (at_builtin; go_loud (refine app rfl (.const (.slice none 0 0)) (.tmp 3) _ rfl 5 (.int .u8 0) 1 Try.underlying29 byte_elem rfl (by omega) (fun _ => rfl) w.heap.size (.slice none 0 0) [] rfl (Own.nil _ _) A _ c x rfl rfl hx (by simp; omega) (Nat.le_refl _) ?_); intro v1 w1 hown1 hg1; rw [List.nil_append] at hown1; obtain ⟨A1, c1, rfl, hrd⟩ := hown1.reads)
  have hE : Ext w w1 := Ext.of_grownBy (by simpa [Value.ownBlock] using hg1.1)
  have hc1 : x.length ≤ c1 := by
    rcases hown1.2 with ⟨h1, _⟩ | ⟨g, cap, cur, h1, _, _, h2, _⟩
    · injection h1 with h1 h2 h3; omega
    · injection h1 with h1 h2 h3; omega
  go_ret
  refine ⟨w1.heap.size, rfl, hE.size, ⟨A1, c1, heap_alloc_new w1 _, hrd.alloc _, Nat.zero_le _, hc1, hn, fun ad e => ?_⟩, hE.alloc _⟩
  subst e
  have := (hown1.lt ad.block rfl).2
  omega

end Go.Proofs.Ytmiijlmjpaiinaa
