/- Walks over package wire: encodings onto nil. -/
import Derived.Test.YtmiijlmjpaiinaaWPlain
import Derived.Deep.RegionHeld3
import Derived.Deep.DeepCutAuto
namespace Go.Proofs.Ytmiijlmjpaiinaa
open Go.RowKit

/-- A new slice of these bytes; nothing else has turned. -/
def NilPost (x : List UInt8) (w : World) (e : Ending) (w' : World) : Prop := ∃ A c, e = .returned (.slice A x.length c) ∧ Rd U8 w' A x ∧ Ext w w'
theorem RetApp.nil {x : List UInt8} {w w' : World} {e : Ending} (h : RetApp w.heap.size w (.slice none 0 0) ([] ++ x) e w') : NilPost x w e w' := by
  obtain ⟨v, rfl, hown, hg⟩ := h
  rw [List.nil_append] at hown
  obtain ⟨A, c, rfl, hr⟩ := hown.reads
  exact ⟨A, c, rfl, hr, Ext.of_grownBy (by simpa [Value.ownBlock] using hg.1)⟩
theorem intNil_c (n : Int) (w : World) (hn : P64 n) : Calls Try.prog 11 #[.slice none 0 0, .int .i64 n] w (NilPost (encI n) w) :=
  (wInt_c _ n w.heap.size [] w hn (Nat.le_refl _) (Own.nil _ _) (by simp)).mono fun _ _ h => h.nil
theorem textNil_c (s : ByteArray) (w : World) (hs : s.size ≤ 1000000) : Calls Try.prog 12 #[.slice none 0 0, .string s] w (NilPost (encBytes s.data.toList) w) :=
  (wText_c _ s w.heap.size [] w hs (Nat.le_refl _) (Own.nil _ _) (by simp)).mono fun _ _ h => h.nil
theorem valuesNil_c (A : Option Addr) (c : Nat) (xs : List Val) (w : World) (hn : xs.length ≤ 100) (hp : ∀ x ∈ xs, OkV x) (hx : RdVals w A xs) : Calls Try.prog 14 #[.slice none 0 0, .slice A xs.length c] w (NilPost (encVals xs) w) :=
  (wValues_c _ A c xs w.heap.size [] w hn hp (Nat.le_refl _) (Own.nil _ _) (by simp) hx (fun _ _ h => by simp [Value.ownBlock] at h)).mono fun _ _ h => h.nil

end Go.Proofs.Ytmiijlmjpaiinaa
