/- Arguments opened to the words of the walks: slices and arrays of elements of any one shape. -/
import Derived.Test.YtmiijlmjpaiinaaFrame
import Derived.Test.YtmiijlmjpaiinaaLib
import Derived.Deep.Slices
import Derived.Deep.Strs
namespace Go.Proofs.Ytmiijlmjpaiinaa
open Go.ChangeShapes Go.WideShapes Go.ChangeAt Go.RowKit Go.Deep

theorem flat_get {α : Type} {F : α → List Value} {sz : Nat} (hF : ∀ a, (F a).length = sz) (h0 : 0 < sz) : ∀ (l : List α) (j : Nat), (l.flatMap F)[j]? = (l[j / sz]?).bind fun a => (F a)[j % sz]? := by
  intro l
  induction l with
  | nil => intro j; simp
  | cons x l ih =>
    intro j
    rw [List.flatMap_cons]
    rcases Nat.lt_or_ge j sz with h | h
    · rw [List.getElem?_append_left (by rw [hF]; exact h), Nat.div_eq_of_lt h, Nat.mod_eq_of_lt h]
      simp
    · rw [List.getElem?_append_right (by rw [hF]; exact h), hF, ih]
      have e1 : j / sz = (j - sz) / sz + 1 := by rw [← Nat.add_div_right _ h0]; congr 1; omega
      have e2 : j % sz = (j - sz) % sz := by rw [← Nat.add_mod_right (j - sz)]; congr 1; omega
      rw [e1, e2, List.getElem?_cons_succ]
theorem flat_len {α : Type} {F : α → List Value} {sz : Nat} (hF : ∀ a, (F a).length = sz) (l : List α) : (l.flatMap F).length = l.length * sz := by
  induction l with
  | nil => simp
  | cons x l ih => rw [List.flatMap_cons, List.length_append, ih, hF, List.length_cons, Nat.add_mul]; omega

section
variable {H : Type} {enc : TypeId × Value → H} {W : World} {t e : TypeId} {fuel : Nat} {cs : List Value} {x : DataW H × List MemPlace} {α : Type}

/-- A slice that came in. -/
theorem open_slice_of (F : α → List Value) (Pr : α → Prop) {sz : Nat} (hF : ∀ a, (F a).length = sz) (h0 : 0 < sz) (ht : Try.prog.underlying t = some (.slice e)) (hc : Try.prog.cellsOf e = sz)
    (hel : ∀ n cs' y, DataW.trod enc Try.prog W 0 (fun _ => true) true n e cs' = some y → ∃ a, cs' = F a ∧ Pr a) (h : DataW.trod enc Try.prog W 0 (fun _ => true) true fuel t cs = some x) :
    ∃ A c l, cs = [.slice A (List.length l) c] ∧ Reads W sz A l.length (l.flatMap F) ∧ (∀ a ∈ l, Pr a) ∧ l.length ≤ c ∧ c ≤ maxLen := by
  rcases open_slice ht h with ⟨rfl, _⟩ | ⟨a, len, cap, m, n, D, Pl, rfl, _, hl, hm, hmm, _, hx⟩
  · exact ⟨none, 0, [], rfl, Reads.nil _ _ _, by simp, Nat.le_refl _, by simp [maxLen]⟩
  · have each : ∀ i, i < len → ∃ q : α, Pr q ∧ ∀ j u, (F q)[j]? = some u → W.cell? (a.add (i * sz + j)) = some u := by
      intro i hi
      obtain ⟨cs', h1, h2⟩ := hx i (by rw [hmm]; simp; omega)
      obtain ⟨q, rfl, hq⟩ := hel _ _ _ h2
      rw [hc] at h1
      obtain ⟨_, hlen, hcell⟩ := World.cells?_some h1
      refine ⟨q, hq, fun j u hu => ?_⟩
      have hj : j < sz := by have := (List.getElem?_eq_some_iff.1 hu).1; rwa [hF] at this
      rw [← add_of_add, hcell j hj]
      exact hu
    rcases Nat.eq_zero_or_pos len with h00 | hpos
    · subst h00
      exact ⟨some a, cap, [], rfl, Reads.nil _ _ _, by simp, by simp, hm⟩
    · obtain ⟨q0, _⟩ := each 0 hpos
      have each' : ∀ i, ∃ q : α, i < len → Pr q ∧ ∀ j u, (F q)[j]? = some u → W.cell? (a.add (i * sz + j)) = some u := by
        intro i
        by_cases hi : i < len
        · obtain ⟨q, hq⟩ := each i hi
          exact ⟨q, fun _ => hq⟩
        · exact ⟨q0, fun h => absurd h hi⟩
      obtain ⟨Q, hQ⟩ : ∃ Q : Nat → α, ∀ i, i < len → Pr (Q i) ∧ ∀ j u, (F (Q i))[j]? = some u → W.cell? (a.add (i * sz + j)) = some u := ⟨fun i => (each' i).choose, fun i => (each' i).choose_spec⟩
      have hlen : ((List.range len).map Q).length = len := by simp
      refine ⟨some a, cap, (List.range len).map Q, by rw [hlen], ⟨flat_len hF _, fun _ => ?_⟩, ?_, by rw [hlen]; exact hl, hm⟩
      · have hc0 : ∀ j u, (((List.range len).map Q).flatMap F)[j]? = some u → W.cell? (a.add j) = some u := by
          intro j u hu
          rw [flat_get hF h0] at hu
          obtain ⟨q, h1, h2⟩ := Option.bind_eq_some_iff.1 hu
          rw [List.getElem?_map, Option.map_eq_some_iff] at h1
          obtain ⟨i, h3, rfl⟩ := h1
          have h4 := List.getElem?_eq_some_iff.1 h3
          obtain ⟨h4, h5⟩ := h4
          rw [List.getElem_range] at h5
          rw [List.length_range] at h4
          have := (hQ (j / sz) h4).2 (j % sz) u (by rw [h5]; exact h2)
          rw [Nat.div_add_mod'] at this
          exact this
        refine ⟨a, rfl, ?_, hc0⟩
        have hF0 : 0 < (F (Q 0)).length := by rw [hF]; exact h0
        have := (hQ 0 hpos).2 0 (F (Q 0))[0] (List.getElem?_eq_getElem hF0)
        have := cell_lt this
        rwa [block_of_add] at this
      · intro b hb
        obtain ⟨i, hi, rfl⟩ := List.mem_map.1 hb
        exact (hQ i (List.mem_range.1 hi)).1

/-- An array that came in, one cell an element. -/
theorem open_array_of (F : α → Value) (Pr : α → Prop) {n : Nat} (ht : Try.prog.underlying t = some (.array n e)) (hc : Try.prog.cellsOf e = 1) (hct : Try.prog.cellsOf t = n)
    (hel : ∀ n cs' y, DataW.trod enc Try.prog W 0 (fun _ => true) true n e cs' = some y → ∃ a, cs' = [F a] ∧ Pr a) (h : DataW.trod enc Try.prog W 0 (fun _ => true) true fuel t cs = some x) :
    ∃ l : List α, cs = l.map F ∧ l.length = n ∧ ∀ a ∈ l, Pr a := by
  obtain ⟨xs, m, _, _, hcl, hxl, hx⟩ := DataW.trod_array ht h
  rw [hct] at hcl
  have key : ∀ k, k ≤ n → ∃ l : List α, cs.take k = l.map F ∧ l.length = k ∧ ∀ a ∈ l, Pr a := by
    intro k
    induction k with
    | zero => intro _; exact ⟨[], by simp, rfl, by simp⟩
    | succ k ih =>
      intro hk
      obtain ⟨l, h1, h2, h3⟩ := ih (by omega)
      have g := hx k (by omega)
      rw [hc, Nat.mul_one, List.getElem?_eq_getElem (by omega)] at g
      obtain ⟨a, ha, hp⟩ := hel _ _ _ g
      rw [List.drop_eq_getElem_cons (by omega), List.take_succ_cons, List.take_zero] at ha
      refine ⟨l ++ [a], ?_, by simp [h2], fun b hb => ?_⟩
      · rw [List.take_succ_eq_append_getElem (by omega), h1, List.map_append, ha]; rfl
      · rw [List.mem_append] at hb
        rcases hb with hb | hb
        · exact h3 b hb
        · simp at hb; subst hb; exact hp
  obtain ⟨l, h1, h2, h3⟩ := key n (Nat.le_refl _)
  rw [List.take_of_length_le (by omega)] at h1
  exact ⟨l, h1, h2, h3⟩
end

end Go.Proofs.Ytmiijlmjpaiinaa
