/- ZoneForget: Forget returns the specified zone for any zone of up to 8 variables; an assignment is in it exactly if it is in the zone with another value of the variable. Conditions: none beyond the statement's. -/
import Derived.Test.YtjkbkmbblidipaaZ24
import Derived.Test.YtjkbkmbblidipaaZ15
namespace Go.Proofs.Ytjkbkmbblidipaa
open Go.ChangeShapes Go.WideShapes Go.ChangeAt Go.RowKit Go.Deep

set_option maxRecDepth 100000 in
theorem modZ_iff {z : Zn} (hv : ValZ z) : (modZ z).2 = true ↔ ∃ ws, HoldsP z ws := by
  constructor
  · intro h
    rcases closeZ_cases z with ⟨e, _⟩ | ⟨L, e, _, hB⟩
    · unfold modZ at h; rw [e] at h; cases h
    · exact ⟨_, modL_holds hv hB⟩
  · rintro ⟨ws, h⟩
    obtain ⟨L, e, _⟩ := h.ok
    unfold modZ
    rw [e]
    rfl
set_option maxRecDepth 100000 in
/-- The greatest of finitely many numbers, one index left out. -/
theorem greatest (f : Nat → Int) (k : Nat) : ∀ n, (∃ a, a < n ∧ a ≠ k) → ∃ a, a < n ∧ a ≠ k ∧ ∀ b, b < n → b ≠ k → f b ≤ f a
  | 0, ⟨a, h, _⟩ => absurd h (by omega)
  | n + 1, ⟨a, h, h'⟩ => by
    by_cases hn : ∃ a, a < n ∧ a ≠ k
    · obtain ⟨c, h1, h2, h3⟩ := greatest f k n hn
      by_cases hk : n = k
      · exact ⟨c, by omega, h2, fun b hb hbk => h3 b (by omega) hbk⟩
      · rcases Int.lt_or_le (f c) (f n) with h4 | h4
        · refine ⟨n, by omega, hk, fun b hb hbk => ?_⟩
          rcases Nat.lt_or_ge b n with h5 | h5
          · have := h3 b h5 hbk; omega
          · have : b = n := by omega
            subst this; exact Int.le_refl _
        · refine ⟨c, by omega, h2, fun b hb hbk => ?_⟩
          rcases Nat.lt_or_ge b n with h5 | h5
          · exact h3 b h5 hbk
          · have : b = n := by omega
            subst this; exact h4
    · refine ⟨a, h, h', fun b hb hbk => ?_⟩
      have h1 : ¬ a < n := fun h1 => hn ⟨a, h1, h'⟩
      have h2 : ¬ b < n := fun h2 => hn ⟨b, h2, hbk⟩
      have : a = b := by omega
      subst this; exact Int.le_refl _
set_option maxRecDepth 100000 in
theorem for_spec {z : Zn} {k : Nat} (hv : ValZ z) (hk : k + 1 < dm z) {vs : List Int} (hl : (vs.length : Int) = z.N) (hr : ∀ v ∈ vs, -10000 ≤ v ∧ v ≤ 10000) :
    HoldsP (forZ z (k : Int)).1 vs ↔ ∃ ws, HoldsP z ws ∧ ∀ t (h : t < vs.length), t ≠ k → num ws (t + 1) = vs[t] := by
  have hd := hv.dim
  have hx : ¬ ((k : Int) < 0 ∨ z.N ≤ (k : Int)) := by omega
  rcases closeZ_cases z with ⟨e, _⟩ | ⟨L, e, -, hB⟩
  · rw [forZ_none hv hx e]
    constructor
    · intro h
      obtain ⟨L, e', _⟩ := h.ok
      rw [nothZ_close (by omega) (by omega)] at e'
      exact absurd (congrArg Prod.snd e') (by simp)
    · rintro ⟨ws, h, _⟩
      obtain ⟨L, e', _⟩ := h.ok
      rw [e] at e'
      exact absurd (congrArg Prod.snd e') (by simp)
  · rw [forZ_some hv hx e]
    dsimp only
    have hvF : ValZ ⟨z.N, forL (dm z) L (k + 1)⟩ := by
      have := valZ_of (n := dm z) (L := forL (dm z) L (k + 1)) hd.2.1 hd.2.2.1 (forL_len _ _ _) (fun a b ha hb => by
        rw [forL_mt ha hb]
        have h1 := ful_le a b
        have h2 := ful_ge a b
        have h3 := hB.in64 hv ha hb
        split <;> omega)
      rwa [← hd.1] at this
    obtain ⟨L2, e2, hB2⟩ := closeZ_ok hvF (D := mt (dm z) L) hB.clo hB.dg (by
      intro a b ha hb
      have h1 := hB.full hv ha hb
      change a < dm z at ha
      change b < dm z at hb
      change _ ≤ min (mt (dm z) (forL (dm z) L (k + 1)) a b) (ful a b)
      rw [forL_mt ha hb]
      split <;> omega)
    rw [e2]
    dsimp only
    rw [hB2.holds hvF]
    constructor
    · rintro ⟨_, _, _, h4⟩
      change ∀ a, a < dm z → ∀ b, b < dm z → num vs a - num vs b ≤ mt (dm z) (forL (dm z) L (k + 1)) a b at h4
      have h5 : ∀ a b, a < dm z → b < dm z → a ≠ k + 1 → b ≠ k + 1 → num vs a - num vs b ≤ mt (dm z) L a b := fun a b ha hb h h' => by
        have := h4 a ha b hb
        rw [forL_mt ha hb, if_neg (by omega)] at this
        exact this
      obtain ⟨a0, g1, g2, g3⟩ := greatest (fun a => num vs a - mt (dm z) L a (k + 1)) (k + 1) (dm z) ⟨0, by omega, by omega⟩
      have hnum : ∀ a, a < dm z → num (vs.set k (num vs a0 - mt (dm z) L a0 (k + 1))) a = if a = k + 1 then num vs a0 - mt (dm z) L a0 (k + 1) else num vs a := by
        intro a ha
        cases a with
        | zero => rfl
        | succ a =>
          rw [num_succ _ (by rw [List.length_set]; omega), num_succ vs (by omega), List.getElem_set]
          by_cases hak : k = a
          · rw [if_pos hak, if_pos (by omega)]
          · rw [if_neg hak, if_neg (by omega)]
      refine ⟨vs.set k (num vs a0 - mt (dm z) L a0 (k + 1)), (holds_iff hv (by rw [List.length_set]; exact hl)).2 ?_, fun t ht htk => ?_⟩
      · intro a b ha hb
        refine Int.le_trans ?_ (hB.le a b ha hb)
        unfold dif
        rw [hnum a ha, hnum b hb]
        by_cases h6 : a = k + 1
        · by_cases h7 : b = k + 1
          · rw [if_pos h6, if_pos h7, h6, h7]
            have := hB.dg (k + 1) hk
            omega
          · rw [if_pos h6, if_neg h7, h6]
            have t1 := h5 a0 b g1 hb g2 h7
            have t2 := hB.clo a0 b (k + 1) g1 hb hk
            omega
        · by_cases h7 : b = k + 1
          · rw [if_neg h6, if_pos h7, h7]
            have := g3 a ha h6
            omega
          · rw [if_neg h6, if_neg h7]
            exact h5 a b ha hb h6 h7
      · rw [num_succ _ (by rw [List.length_set]; exact ht), List.getElem_set, if_neg (fun h => htk h.symm)]
    · rintro ⟨ws, h, hw⟩
      have hwl := h.2.1
      have hdif := hB.max _ (dif_clo _ _) ((holds_iff h.1 h.2.1).1 h)
      have hsame : ∀ a, a < dm z → a ≠ k + 1 → num vs a = num ws a := fun a ha hak => by
        cases a with
        | zero => rfl
        | succ a => rw [hw a (by omega) (by omega), num_succ vs (by omega)]
      refine ⟨hvF, hl, hr, fun a ha b hb => ?_⟩
      change num vs a - num vs b ≤ mt (dm z) (forL (dm z) L (k + 1)) a b
      change a < dm z at ha
      change b < dm z at hb
      rw [forL_mt ha hb]
      split
      · exact num_dif hr a b
      · rename_i hn
        rw [hsame a ha (fun h => hn (.inl h)), hsame b hb (fun h => hn (.inr h))]
        exact hdif a b ha hb
set_option maxRecDepth 100000 in
theorem forZ_ok {z : Zn} {x : Int} (h : (forZ z x).2 = 0) : ValZ z ∧ 0 ≤ x ∧ x < z.N := by
  by_cases hv : ValZ z
  · by_cases hx : x < 0 ∨ z.N ≤ x
    · rw [forZ_rng hv hx] at h; cases h
    · exact ⟨hv, by omega, by omega⟩
  · rw [forZ_bad hv] at h; cases h
set_option maxRecDepth 100000 in
theorem forZ_len {z : Zn} (x : Int) (h8 : z.N ≤ 8) : (forZ z x).1.b.length ≤ 1000000000 := by
  by_cases hv : ValZ z
  · by_cases hx : x < 0 ∨ z.N ≤ x
    · rw [forZ_rng hv hx]; decide
    · have hd := hv.dim
      rcases closeZ_cases z with ⟨e, _⟩ | ⟨L, e, -, hB⟩
      · rw [forZ_none hv hx e]
        exact val_len (nothZ_val (by omega) (by omega))
      · obtain ⟨k, rfl⟩ := Int.eq_ofNat_of_zero_le (show 0 ≤ x by omega)
        rw [forZ_some hv hx e]
        refine (closeZ_N (z := ⟨z.N, forL (dm z) L (k + 1)⟩) (zc := (closeZ ⟨z.N, forL (dm z) L (k + 1)⟩).1) (ok := (closeZ ⟨z.N, forL (dm z) L (k + 1)⟩).2) rfl h8 ?_).2
        show (forL (dm z) L (k + 1)).length ≤ _
        rw [forL_len]
        have := mul25 hd.2.2.1 hd.2.2.1
        omega
  · rw [forZ_bad hv]; decide
end Go.Proofs.Ytjkbkmbblidipaa
