/- An argument that is a slice of ints, opened to the words of the walks. -/
import Derived.Test.YtomejdempmbbmaaFrame
import Derived.Test.YtomejdempmbbmaaBase
namespace Go.Proofs.Ytomejdempmbbmaa
open Go.ChangeShapes Go.WideShapes Go.ChangeAt Go.RowKit

theorem cell_lt {w : World} {a : Addr} {v : Value} (h : w.cell? a = some v) : a.block < w.heap.size := by
  rcases Nat.lt_or_ge a.block w.heap.size with hlt | hge
  · exact hlt
  · have : w.heap[a.block]? = none := Array.getElem?_eq_none hge
    simp [World.cell?, this] at h

theorem open_Ints {H : Type} {enc : TypeId × Value → H} {W : World} {base : Nat} {t : TypeId} {v : Value} {d : DataW H} {p : List MemPlace} (ht : Try.prog.underlying t = some (.slice 3))
    (hv : Value.okWide Try.prog W .any base t v) (h : DataW.Trod enc Try.prog W 0 (fun _ => true) true t v d p) :
    ∃ A c l, v = .slice A l.length c ∧ Ints W A l ∧ ∀ x ∈ l, -9223372036854775808 ≤ x ∧ x ≤ 9223372036854775807 := by
  obtain ⟨a, len, cap, rfl⟩ := okWide_slice ht hv
  obtain ⟨fuel, hf⟩ := h
  rcases open_ints ht Try.underlying3 (by kernel_rfl) hf with ⟨hcs, _⟩ | ⟨x, l, c, zs, hcs, _, hl, hm, hz, _, hcell, hwz⟩
  · simp [Value.cells] at hcs
    obtain ⟨rfl, rfl, rfl⟩ := hcs
    exact ⟨none, 0, [], rfl, Ints.nil _ _, by simp⟩
  · simp [Value.cells] at hcs
    obtain ⟨rfl, rfl, rfl⟩ := hcs
    have hz' : zs.length = cap := by simpa using hz
    have hlen : (zs.take len).length = len := by rw [List.length_take]; omega
    refine ⟨some x, cap, zs.take len, by rw [hlen], ?_, fun n hn => ?_⟩
    · unfold Ints
      refine ⟨by simp, fun h0 => ?_⟩
      rw [hlen] at h0
      have h00 := hcell 0 (by omega)
      refine ⟨x, rfl, by simpa [block_of_add] using cell_lt h00, fun j u hu => ?_⟩
      rw [List.getElem?_map, List.getElem?_take] at hu
      split at hu
      · rename_i hj
        have hj2 : j < zs.length := by omega
        rw [List.getElem?_eq_getElem hj2] at hu
        simp only [Option.map_some, Option.some.injEq] at hu
        subst hu
        rw [hcell j hj2]
        simp [List.getD, List.getElem?_eq_getElem hj2]
      · simp at hu
    · have := hwz n (List.mem_of_mem_take hn)
      exact bounds_i64 this

end Go.Proofs.Ytomejdempmbbmaa
