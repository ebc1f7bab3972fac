/- Package wire: the reader: events. -/
import Derived.Test.YtcfnmklbkhibgaaW6
namespace Go.Proofs.Ytcfnmklbkhibgaa
open Go.RowKit

set_option maxRecDepth 100000 in
theorem RP.int {g : Nat} {B : Option Addr} {cB : Nat} {D : List UInt8} {k : Nat} {f : Bool} {H H' : Heap} {v : Value} (h : RP rdI VI UI g B cB D k f H v H') :
    Keep [g] H H' ∧ ∃ f' k' n, Rdr H' g B cB D k' f' ∧ v = .int .i64 n ∧ (f' = false → P64 n) ∧ prs rdI f D k = bif f' then none else some (n, D.drop k') := by
  obtain ⟨hK, f', k', h1, ⟨rfl, hp, z, rfl⟩ | ⟨rfl, a, hp, rfl, h64⟩⟩ := h.flat
  · exact ⟨hK, true, k', z, h1, rfl, (fun h => by cases h), hp⟩
  · exact ⟨hK, false, k', a, h1, rfl, fun _ => h64, hp⟩
set_option maxRecDepth 100000 in
theorem RP.bool {g : Nat} {B : Option Addr} {cB : Nat} {D : List UInt8} {k : Nat} {f : Bool} {H H' : Heap} {v : Value} (h : RP pBool VBo UBo g B cB D k f H v H') :
    Keep [g] H H' ∧ ∃ f' k' n, Rdr H' g B cB D k' f' ∧ v = .bool n ∧ prs pBool f D k = bif f' then none else some (n, D.drop k') := by
  obtain ⟨hK, f', k', h1, ⟨rfl, hp, z, rfl⟩ | ⟨rfl, a, hp, rfl⟩⟩ := h.flat
  · exact ⟨hK, true, k', z, h1, rfl, hp⟩
  · exact ⟨hK, false, k', a, h1, rfl, hp⟩
def pEvt (b : List UInt8) : Option (Evt × List UInt8) := (rdI b).bind fun a => (pBool a.2).bind fun s => (rdI s.2).bind fun p => (rdI p.2).bind fun l => (pList pVal 4 l.2).map fun v => (⟨a.1, s.1, p.1, l.1, v.1⟩, v.2)
def OkE (x : Evt) : Prop := P64 x.role ∧ P64 x.peer ∧ P64 x.label ∧ (∀ y ∈ x.values, OkW y) ∧ x.values.length ≤ 4
def VE (b0 : Nat) (H : Heap) (x : Evt) (v : Value) : Prop := (∃ A c, v = .agg (evC x A c).toArray ∧ Own eWV 80 H b0 (.slice A x.values.length c) x.values) ∧ OkE x
def UE (_ : Heap) (v : Value) : Prop := ∃ (a p l : Int) (s : Bool) (A : Option Addr) (n c : Nat), v = .agg #[.int .i64 a, .bool s, .int .i64 p, .int .i64 l, .slice A n c]
set_option maxRecDepth 100000 in
theorem pList_le {α : Type} {p : List UInt8 → Option (α × List UInt8)} {m : Int} {b r : List UInt8} {l : List α} (h : pList p m b = some (l, r)) : (l.length : Int) ≤ m := by
  unfold pList pBnd at h
  cases hq : rdI b with
  | none => rw [hq] at h; cases h
  | some y =>
    rw [hq] at h
    simp only [Option.bind_some] at h
    by_cases hy : 0 ≤ y.1 ∧ y.1 ≤ m
    · rw [if_pos hy] at h
      simp only [Option.bind_some] at h
      rw [pN_len _ _ _ _ h]
      omega
    · rw [if_neg hy] at h; cases h
set_option maxRecDepth 100000 in
theorem pEvt_chain {D : List UInt8} {k k1 k2 k3 k4 k5 : Nat} {f f1 f2 f3 f4 f5 : Bool} {a p l : Int} {s : Bool} {vs : List Val}
    (h1 : prs rdI f D k = bif f1 then none else some (a, D.drop k1)) (h2 : prs pBool f1 D k1 = bif f2 then none else some (s, D.drop k2)) (h3 : prs rdI f2 D k2 = bif f3 then none else some (p, D.drop k3)) (h4 : prs rdI f3 D k3 = bif f4 then none else some (l, D.drop k4))
    (h5 : prs (pList pVal 4) f4 D k4 = bif f5 then none else some (vs, D.drop k5)) : (prs pEvt f D k = bif f5 then none else some (⟨a, s, p, l, vs⟩, D.drop k5)) ∧ (f5 = false → f1 = false ∧ f2 = false ∧ f3 = false ∧ f4 = false ∧ f = false) := by
  cases f
  · cases f1
    · cases f2
      · cases f3
        · cases f4
          · simp only [prs_f, cond_false] at h1 h2 h3 h4 h5 ⊢
            refine ⟨?_, fun _ => by simp⟩
            unfold pEvt
            simp only [h1, h2, h3, h4, h5, Option.bind_some]
            cases f5 <;> rfl
          · cases f5
            · cases h5
            · refine ⟨?_, fun h => by cases h⟩
              simp only [prs_f, cond_false, cond_true] at h1 h2 h3 h4 ⊢
              unfold pEvt
              simp only [h1, h2, h3, h4, Option.bind_some, Option.bind_none]
        · cases f4
          · cases h4
          · cases f5
            · cases h5
            · refine ⟨?_, fun h => by cases h⟩
              simp only [prs_f, cond_false, cond_true] at h1 h2 h3 ⊢
              unfold pEvt
              simp only [h1, h2, h3, Option.bind_some, Option.bind_none]
      · cases f3
        · cases h3
        · cases f4
          · cases h4
          · cases f5
            · cases h5
            · refine ⟨?_, fun h => by cases h⟩
              simp only [prs_f, cond_false, cond_true] at h1 h2 ⊢
              unfold pEvt
              simp only [h1, h2, Option.bind_some, Option.bind_none]
    · cases f2
      · cases h2
      · cases f3
        · cases h3
        · cases f4
          · cases h4
          · cases f5
            · cases h5
            · refine ⟨?_, fun h => by cases h⟩
              simp only [prs_f, cond_true] at h1 ⊢
              unfold pEvt
              simp only [h1, Option.bind_none]
  · cases f1
    · cases h1
    · cases f2
      · cases h2
      · cases f3
        · cases h3
        · cases f4
          · cases h4
          · cases f5
            · cases h5
            · exact ⟨rfl, fun h => by cases h⟩
end Go.Proofs.Ytcfnmklbkhibgaa
