/- Arguments of layer 1's statements, opened. -/
import Derived.Test.YtmiijlmjpaiinaaOpen
import Derived.Test.YtmiijlmjpaiinaaWNil
namespace Go.Proofs.Ytmiijlmjpaiinaa
open Go.ChangeShapes Go.WideShapes Go.ChangeAt Go.RowKit Go.Deep

section
variable {H : Type} {enc : TypeId × Value → H} {W : World} {base : Nat} {fuel n : Nat} {cs cs' : List Value} {x y : DataW H × List MemPlace} {t e : TypeId} {v : Value} {d : DataW H} {p : List MemPlace}
theorem el_int (h : DataW.trod enc Try.prog W 0 (fun _ => true) true n 3 cs' = some y) : ∃ a : Int, cs' = [I64 a] ∧ P64 a := by
  obtain ⟨z, rfl, _, hz⟩ := DataW.trod_int Try.underlying3 h
  exact ⟨z, rfl, bounds_i64 hz⟩
theorem el_str (h : DataW.trod enc Try.prog W 0 (fun _ => true) true n 9 cs' = some y) : ∃ a : ByteArray, cs' = [.string a] ∧ a.size ≤ maxLen := by
  obtain ⟨s, rfl, _, hz⟩ := DataW.trod_string Try.underlying9 h
  exact ⟨s, rfl, hz⟩
theorem el_val (h : DataW.trod enc Try.prog W 0 (fun _ => true) true n 34 cs' = some y) : ∃ a : Val, cs' = VCells a ∧ (P64 a.kind ∧ P64 a.n ∧ a.s.size ≤ maxLen) := by
  obtain ⟨y0, y1, y2, m, _, hl, h0, h1, h2⟩ := trod_struct3 Try.underlying34 h
  have hl3 : cs'.length = 3 := hl.trans (by kernel_rfl)
  match cs', hl3 with
  | [a, b, c], _ =>
    have e3 : Try.prog.cellsOf 3 = 1 := by kernel_rfl
    have e9 : Try.prog.cellsOf 9 = 1 := by kernel_rfl
    simp only [e3, e9] at h0 h1 h2
    obtain ⟨z0, r0, _, w0⟩ := DataW.trod_int Try.underlying3 h0
    obtain ⟨z1, r1, _, w1⟩ := DataW.trod_int Try.underlying3 h1
    obtain ⟨z2, r2, _, w2⟩ := DataW.trod_string Try.underlying9 h2
    simp at r0 r1 r2
    subst r0; subst r1; subst r2
    exact ⟨⟨z0, z1, z2⟩, rfl, bounds_i64 w0, bounds_i64 w1, w2⟩
theorem el_vals (ht : Try.prog.underlying t = some (.slice 34)) (h : DataW.trod enc Try.prog W 0 (fun _ => true) true n t cs' = some y) :
    ∃ a : Option Addr × Nat × List Val, cs' = [.slice a.1 a.2.2.length a.2.1] ∧ (RdVals W a.1 a.2.2 ∧ (∀ x ∈ a.2.2, P64 x.kind ∧ P64 x.n) ∧ a.2.2.length ≤ maxLen) := by
  obtain ⟨A, c, l, rfl, hr, hp, h1, h2⟩ := open_slice_of VCells (fun a => P64 a.kind ∧ P64 a.n ∧ a.s.size ≤ maxLen) (sz := 3) (fun _ => rfl) (by omega) ht (by kernel_rfl) (fun _ _ _ h => el_val h) h
  exact ⟨(A, c, l), rfl, hr, fun x hx => ⟨(hp x hx).1, (hp x hx).2.1⟩, Nat.le_trans h1 h2⟩

/-- An array of two that came in. -/
theorem open_two {α : Type} (F : α → Value) (Pr : α → Prop) (ht : Try.prog.underlying t = some (.array 2 e)) (hc : Try.prog.cellsOf e = 1) (hct : Try.prog.cellsOf t = 2)
    (hel : ∀ n cs' y, DataW.trod enc Try.prog W 0 (fun _ => true) true n e cs' = some y → ∃ a, cs' = [F a] ∧ Pr a) (hv : Value.okWide Try.prog W .any base t v) (h : DataW.Trod enc Try.prog W 0 (fun _ => true) true t v d p) :
    ∃ a b : α, v = .agg #[F a, F b] ∧ Pr a ∧ Pr b := by
  simp only [Value.okWide, ht] at hv
  obtain ⟨cs, rfl, hsz, _⟩ := hv
  obtain ⟨fuel, hf⟩ := h
  obtain ⟨l, h1, h2, h3⟩ := open_array_of F Pr ht hc hct hel hf
  match l, h2 with
  | [a, b], _ =>
    refine ⟨a, b, ?_, h3 a (by simp), h3 b (by simp)⟩
    congr 1
    apply Array.toList_inj.1
    exact h1
end

end Go.Proofs.Ytmiijlmjpaiinaa
