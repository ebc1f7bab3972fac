/- Package wire: what is read is what was encoded (mathematics). -/
import Derived.Test.YtcfnmklbkhibgaaW10
namespace Go.Proofs.Ytcfnmklbkhibgaa
open Go.RowKit

set_option maxRecDepth 100000 in
theorem pBnd_canon {lo hi n : Int} {b r : List UInt8} (h : pBnd lo hi b = some (n, r)) : b = encI n ++ r ∧ lo ≤ n ∧ n ≤ hi := by
  unfold pBnd at h
  obtain ⟨⟨m, s⟩, h1, h2⟩ := Option.bind_eq_some_iff.1 h
  dsimp only at h2
  by_cases hn : lo ≤ m ∧ m ≤ hi
  · rw [if_pos hn] at h2
    simp only [Option.some.injEq, Prod.mk.injEq] at h2
    obtain ⟨rfl, rfl⟩ := h2
    exact ⟨(rdI_canon h1).1, hn⟩
  · rw [if_neg hn] at h2
    cases h2
set_option maxRecDepth 100000 in
theorem pBnd_enc {lo hi n : Int} (h : P64 n) (hn : lo ≤ n ∧ n ≤ hi) (r : List UInt8) : pBnd lo hi (encI n ++ r) = some (n, r) := pBnd_some (rdI_enc h r) hn
set_option maxRecDepth 100000 in
theorem pBool_canon {b r : List UInt8} {s : Bool} (h : pBool b = some (s, r)) : b = encB s ++ r := by
  cases b with
  | nil => cases h
  | cons c t =>
    unfold pBool at h
    dsimp only at h
    by_cases hc : c.toNat ≤ 1
    · rw [if_pos hc] at h
      simp only [Option.some.injEq, Prod.mk.injEq] at h
      obtain ⟨rfl, rfl⟩ := h
      unfold encB
      rcases Nat.lt_or_ge c.toNat 1 with h0 | h1
      · have : c = 0 := UInt8.toNat.inj (by rw [show (0 : UInt8).toNat = 0 from rfl]; omega)
        subst this
        rfl
      · have : c = 1 := UInt8.toNat.inj (by rw [show (1 : UInt8).toNat = 1 from rfl]; omega)
        subst this
        rfl
    · rw [if_neg hc] at h
      cases h
set_option maxRecDepth 100000 in
theorem pBool_enc (s : Bool) (r : List UInt8) : pBool (encB s ++ r) = some (s, r) := by cases s <;> rfl
set_option maxRecDepth 100000 in
theorem pBytes_canon {m : Int} {b x r : List UInt8} (h : pBytes m b = some (x, r)) : b = encBytes x ++ r ∧ (x.length : Int) ≤ m := by
  unfold pBytes at h
  obtain ⟨⟨n, s⟩, h1, h2⟩ := Option.bind_eq_some_iff.1 h
  obtain ⟨hb, h0, hm⟩ := pBnd_canon h1
  dsimp only at h2
  by_cases hn : n.toNat ≤ s.length
  · rw [if_pos hn] at h2
    simp only [Option.some.injEq, Prod.mk.injEq] at h2
    obtain ⟨rfl, rfl⟩ := h2
    have hl : ((s.take n.toNat).length : Int) = n := by rw [List.length_take]; omega
    unfold encBytes
    rw [hl, List.append_assoc, List.take_append_drop]
    exact ⟨hb, hm⟩
  · rw [if_neg hn] at h2
    cases h2
set_option maxRecDepth 100000 in
theorem pBytes_enc {m : Int} {x : List UInt8} (hx : x.length ≤ 1000000) (hm : (x.length : Int) ≤ m) (r : List UInt8) : pBytes m (encBytes x ++ r) = some (x, r) := by
  unfold pBytes encBytes
  rw [List.append_assoc, pBnd_enc (P64_len hx) ⟨by omega, hm⟩]
  simp
  omega
set_option maxRecDepth 100000 in
theorem pVal_canon {b r : List UInt8} {v : Val} (h : pVal b = some (v, r)) : b = encV v ++ r := by
  unfold pVal at h
  obtain ⟨⟨n, s⟩, h1, h2⟩ := Option.bind_eq_some_iff.1 h
  obtain ⟨hb, h0, hm⟩ := pBnd_canon h1
  dsimp only at h2
  by_cases hn : n = 1
  · rw [if_pos hn] at h2
    obtain ⟨⟨m, t⟩, h3, h4⟩ := Option.map_eq_some_iff.1 h2
    simp only [Prod.mk.injEq] at h4
    obtain ⟨rfl, rfl⟩ := h4
    subst hn
    unfold encV
    rw [if_pos rfl, List.append_assoc, ← (rdI_canon h3).1]
    exact hb
  · rw [if_neg hn] at h2
    obtain ⟨⟨m, t⟩, h3, h4⟩ := Option.map_eq_some_iff.1 h2
    simp only [Prod.mk.injEq] at h4
    obtain ⟨rfl, rfl⟩ := h4
    have h2n : n = 2 := by omega
    subst h2n
    unfold encV
    rw [if_neg (show ¬ ((2 : Int) = 1) by decide), if_pos rfl, List.append_assoc, ← (pBytes_canon h3).1]
    exact hb
set_option maxRecDepth 100000 in
theorem pN_canon {α : Type} {p : List UInt8 → Option (α × List UInt8)} {e : α → List UInt8} (hp : ∀ b x r, p b = some (x, r) → b = e x ++ r) : ∀ (n : Nat) (b : List UInt8) (l : List α) (r : List UInt8), pN p n b = some (l, r) → b = l.flatMap e ++ r ∧ l.length = n
  | 0, b, l, r, h => by
    simp only [pN, Option.some.injEq, Prod.mk.injEq] at h
    obtain ⟨rfl, rfl⟩ := h
    exact ⟨rfl, rfl⟩
  | n + 1, b, l, r, h => by
    simp only [pN] at h
    obtain ⟨⟨x, s⟩, h1, h2⟩ := Option.bind_eq_some_iff.1 h
    obtain ⟨⟨l', t⟩, h3, h4⟩ := Option.map_eq_some_iff.1 h2
    simp only [Prod.mk.injEq] at h4
    obtain ⟨rfl, rfl⟩ := h4
    obtain ⟨ih, hl⟩ := pN_canon hp n _ _ _ h3
    dsimp only at ih
    rw [hp _ _ _ h1, ih, List.flatMap_cons, List.append_assoc]
    exact ⟨rfl, by simp [hl]⟩
set_option maxRecDepth 100000 in
theorem pList_canon {α : Type} {p : List UInt8 → Option (α × List UInt8)} {e : α → List UInt8} (hp : ∀ b x r, p b = some (x, r) → b = e x ++ r) {m : Int} {b r : List UInt8} {l : List α} (h : pList p m b = some (l, r)) : b = encI l.length ++ l.flatMap e ++ r ∧ (l.length : Int) ≤ m := by
  unfold pList at h
  obtain ⟨⟨n, s⟩, h1, h2⟩ := Option.bind_eq_some_iff.1 h
  obtain ⟨hb, h0, hm⟩ := pBnd_canon h1
  obtain ⟨hs, hl⟩ := pN_canon hp _ _ _ _ h2
  dsimp only at hs hl
  have : (l.length : Int) = n := by omega
  rw [hb, hs, this, List.append_assoc]
  exact ⟨rfl, hm⟩
set_option maxRecDepth 100000 in
theorem pEvt_canon {b r : List UInt8} {x : Evt} (h : pEvt b = some (x, r)) : b = encE x ++ r := by
  unfold pEvt at h
  obtain ⟨⟨a, b1⟩, h1, h⟩ := Option.bind_eq_some_iff.1 h
  obtain ⟨⟨s, b2⟩, h2, h⟩ := Option.bind_eq_some_iff.1 h
  obtain ⟨⟨p, b3⟩, h3, h⟩ := Option.bind_eq_some_iff.1 h
  obtain ⟨⟨l, b4⟩, h4, h⟩ := Option.bind_eq_some_iff.1 h
  obtain ⟨⟨v, b5⟩, h5, h⟩ := Option.map_eq_some_iff.1 h
  simp only [Prod.mk.injEq] at h
  obtain ⟨rfl, rfl⟩ := h
  have e5 := (pList_canon (e := encV) (fun _ _ _ h => pVal_canon h) h5).1
  have e4 := (rdI_canon h4).1
  have e3 := (rdI_canon h3).1
  have e2 := pBool_canon h2
  have e1 := (rdI_canon h1).1
  dsimp only at e1 e2 e3 e4 e5
  rw [e1, e2, e3, e4, e5]
  simp only [encE, encVals, List.append_assoc]
set_option maxRecDepth 100000 in
/-- Encodings are told from each other at their beginnings. -/
theorem encV_inj {u v : Val} (hu : OkVal u) (hv : OkW v) {r s : List UInt8} (h : encV u ++ r = encV v ++ s) : r = s := by
  obtain ⟨u1, u2, u3⟩ := hu
  obtain ⟨⟨v1, v2, v3⟩, v4, v5⟩ := hv
  unfold encV at h
  rw [List.append_assoc, List.append_assoc] at h
  obtain ⟨hk, h⟩ := encI_inj u1 v1 h
  rw [hk] at h
  rcases v5 with ⟨k1, _⟩ | ⟨k2, _⟩
  · rw [k1, if_pos rfl, if_pos rfl] at h
    exact (encI_inj u2 v2 h).2
  · rw [k2, if_neg (by decide), if_pos rfl, if_neg (by decide), if_pos rfl] at h
    unfold encBytes at h
    rw [List.append_assoc, List.append_assoc] at h
    obtain ⟨hl, h⟩ := encI_inj (P64_len u3) (P64_len v3) h
    exact (List.append_inj h (by change u.s.size = v.s.size; change ((u.s.size : Nat) : Int) = ((v.s.size : Nat) : Int) at hl; omega)).2
set_option maxRecDepth 100000 in
theorem encVs_inj : ∀ (l m : List Val) (r s : List UInt8), l.length = m.length → (∀ y ∈ l, OkVal y) → (∀ y ∈ m, OkW y) → l.flatMap encV ++ r = m.flatMap encV ++ s → r = s
  | [], [], r, s, _, _, _, h => h
  | [], _ :: _, _, _, hl, _, _, _ => by cases hl
  | _ :: _, [], _, _, hl, _, _, _ => by cases hl
  | u :: l, v :: m, r, s, hl, h1, h2, h => by
    rw [List.flatMap_cons, List.flatMap_cons, List.append_assoc, List.append_assoc] at h
    exact encVs_inj l m r s (by simpa using hl) (fun y hy => h1 y (List.mem_cons_of_mem _ hy)) (fun y hy => h2 y (List.mem_cons_of_mem _ hy)) (encV_inj (h1 u List.mem_cons_self) (h2 v List.mem_cons_self) h)
set_option maxRecDepth 100000 in
theorem encE_inj {x y : Evt} (hx : OkEvt x) (hy : OkE y) {r s : List UInt8} (h : encE x ++ r = encE y ++ s) : r = s := by
  obtain ⟨x1, x2, x3, x4, x5⟩ := hx
  obtain ⟨y1, y2, y3, y4, y5⟩ := hy
  unfold encE encVals at h
  simp only [List.append_assoc] at h
  obtain ⟨-, h⟩ := encI_inj x1 y1 h
  obtain ⟨-, h⟩ := List.append_inj h (by cases x.send <;> cases y.send <;> rfl)
  obtain ⟨-, h⟩ := encI_inj x2 y2 h
  obtain ⟨-, h⟩ := encI_inj x3 y3 h
  obtain ⟨hl, h⟩ := encI_inj (P64_len (by omega)) (P64_len (by omega)) h
  exact encVs_inj _ _ _ _ (by omega) x4 y4 h
set_option maxRecDepth 100000 in
theorem rdI_prefix {n : Int} (hn : P64 n) {q t : List UInt8} (h : encI n = q ++ t) (ht : t ≠ []) : rdI q = none := by
  cases hq : rdI q with
  | none => rfl
  | some z =>
    obtain ⟨m, r⟩ := z
    obtain ⟨hc, hm⟩ := rdI_canon hq
    rw [hc, List.append_assoc] at h
    have := (encI_inj hn hm (r := []) (by rw [List.append_nil]; exact h)).2
    exact absurd (List.append_eq_nil_iff.1 this.symm).2 ht
set_option maxRecDepth 100000 in
theorem pBytes_prefix {m : Int} {x q t : List UInt8} (hx : x.length ≤ 1000000) (hm : m ≤ 1000000) (h : encBytes x = q ++ t) (ht : t ≠ []) : pBytes m q = none := by
  cases hq : pBytes m q with
  | none => rfl
  | some z =>
    obtain ⟨y, r⟩ := z
    obtain ⟨hc, hy⟩ := pBytes_canon hq
    rw [hc, List.append_assoc] at h
    unfold encBytes at h
    rw [List.append_assoc] at h
    obtain ⟨hl, h⟩ := encI_inj (P64_len hx) (P64_len (by omega)) h
    have h' : x ++ [] = y ++ (r ++ t) := by rw [List.append_nil]; exact h
    have := (List.append_inj h' (by omega)).2
    exact absurd (List.append_eq_nil_iff.1 this.symm).2 ht
set_option maxRecDepth 100000 in
theorem PP.ok {α : Type} {p : List UInt8 → Option (α × List UInt8)} {V : Heap → α → Value → Prop} {Z : Value} {g : Nat} {B : Option Addr} {cB : Nat} {D : List UInt8} {k : Nat} {H : Heap} {v : Value} {H' : Heap} {a : α} {r : List UInt8} (h : PP p V Z g B cB D k false H v H') (hp : p (D.drop k) = some (a, r)) :
    Keep [g] H H' ∧ ∃ k', D.drop k' = r ∧ Rdr H' g B cB D k' false ∧ V H' a v := by
  obtain ⟨hK, ⟨a', k', h1, h2, h3⟩ | ⟨h1, _⟩⟩ := h
  · rw [prs_f, hp] at h1
    simp only [Option.some.injEq, Prod.mk.injEq] at h1
    obtain ⟨rfl, rfl⟩ := h1
    exact ⟨hK, k', rfl, h2, h3⟩
  · rw [prs_f, hp] at h1
    cases h1
set_option maxRecDepth 100000 in
theorem pN_enc {α : Type} {p : List UInt8 → Option (α × List UInt8)} {e : α → List UInt8} (r : List UInt8) : ∀ l : List α, (∀ x ∈ l, ∀ r, p (e x ++ r) = some (x, r)) → pN p l.length (l.flatMap e ++ r) = some (l, r)
  | [], _ => rfl
  | x :: l, h => by
    simp only [List.length_cons, pN, List.flatMap_cons, List.append_assoc]
    rw [h x List.mem_cons_self]
    simp only [Option.bind_some]
    rw [pN_enc r l fun y hy => h y (List.mem_cons_of_mem _ hy)]
    rfl
set_option maxRecDepth 100000 in
theorem pList_enc {α : Type} {p : List UInt8 → Option (α × List UInt8)} {e : α → List UInt8} {m : Int} {l : List α} (hm : (l.length : Int) ≤ m) (hl : l.length ≤ 1000000) (h : ∀ x ∈ l, ∀ r, p (e x ++ r) = some (x, r)) (r : List UInt8) : pList p m (encI l.length ++ l.flatMap e ++ r) = some (l, r) := by
  unfold pList
  rw [List.append_assoc, pBnd_enc (P64_len hl) ⟨by omega, hm⟩]
  exact pN_enc r l h
end Go.Proofs.Ytcfnmklbkhibgaa
