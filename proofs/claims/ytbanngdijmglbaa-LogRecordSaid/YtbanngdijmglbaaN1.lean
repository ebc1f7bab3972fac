/- Conversations, their mathematics: which event is before which, and the clocks. -/
import Derived.Test.YtbanngdijmglbaaM15
namespace Go.Proofs.Ytbanngdijmglbaa
open Go.RowKit

/-- Events 0 .. n - 1 of four roles: event k is number ix k of role rl k and has the clock ck k; bf k j: event j is before event k. -/
structure InvF (n : Nat) (rl ix len : Nat → Nat) (ck : Nat → List Int) (bf : Nat → Nat → Prop) : Prop where
  role : ∀ k, k < n → rl k < 4 ∧ ix k < len (rl k)
  cover : ∀ r i, r < 4 → i < len r → ∃ k, k < n ∧ rl k = r ∧ ix k = i
  mono : ∀ j k, j < k → k < n → rl j = rl k → ix j < ix k
  cklen : ∀ k, k < n → (ck k).length = 4
  ckpos : ∀ k a, k < n → a < 4 → 0 ≤ (ck k).getD a 0 ∧ (ck k).getD a 0 ≤ len a
  own : ∀ k, k < n → (ck k).getD (rl k) 0 = (ix k : Int) + 1
  causal : ∀ k j, k < n → j < n → ((ix j : Int) + 1 ≤ (ck k).getD (rl j) 0 ↔ j = k ∨ bf k j)
  bfl : ∀ k j, k < n → bf k j → j < k
  trans : ∀ k j i, k < n → bf k j → bf j i → bf k i
  same : ∀ j k, j < k → k < n → rl j = rl k → bf k j
section
variable {n : Nat} {rl ix len : Nat → Nat} {ck : Nat → List Int} {bf : Nat → Nat → Prop}
set_option maxRecDepth 100000 in
theorem InvF.congr {rl' ix' len' : Nat → Nat} {ck' : Nat → List Int} {bf' : Nat → Nat → Prop} (h : InvF n rl ix len ck bf) (h1 : ∀ k, k < n → rl' k = rl k) (h2 : ∀ k, k < n → ix' k = ix k) (h3 : ∀ r, r < 4 → len' r = len r) (h4 : ∀ k, k < n → ck' k = ck k) (h5 : ∀ k j, k < n → (bf' k j ↔ bf k j)) : InvF n rl' ix' len' ck' bf' where
  role k hk := by rw [h1 k hk, h2 k hk, h3 _ (h.role k hk).1]; exact h.role k hk
  cover r i hr hi := by
    rw [h3 r hr] at hi
    obtain ⟨k, hk, h6, h7⟩ := h.cover r i hr hi
    exact ⟨k, hk, by rw [h1 k hk, h6], by rw [h2 k hk, h7]⟩
  mono j k hj hk e := by rw [h2 j (by omega), h2 k hk]; rw [h1 j (by omega), h1 k hk] at e; exact h.mono j k hj hk e
  cklen k hk := by rw [h4 k hk]; exact h.cklen k hk
  ckpos k a hk ha := by rw [h4 k hk, h3 a ha]; exact h.ckpos k a hk ha
  own k hk := by rw [h4 k hk, h1 k hk, h2 k hk]; exact h.own k hk
  causal k j hk hj := by rw [h4 k hk, h1 j hj, h2 j hj, h5 k j hk]; exact h.causal k j hk hj
  bfl k j hk hb := h.bfl k j hk ((h5 k j hk).1 hb)
  trans k j i hk h6 h7 := by
    have h8 := (h5 k j hk).1 h6
    have := h.bfl k j hk h8
    exact (h5 k i hk).2 (h.trans k j i hk h8 ((h5 j i (by omega)).1 h7))
  same j k hj hk e := by rw [h1 j (by omega), h1 k hk] at e; exact (h5 k j hk).2 (h.same j k hj hk e)
set_option maxRecDepth 100000 in
theorem InvF.inj (h : InvF n rl ix len ck bf) {j k : Nat} (hj : j < n) (hk : k < n) (e : rl j = rl k) (e2 : ix j = ix k) : j = k := by
  rcases Nat.lt_trichotomy j k with h1 | h1 | h1
  · have := h.mono j k h1 hk e; omega
  · exact h1
  · have := h.mono k j h1 hj e.symm; omega
set_option maxRecDepth 100000 in
theorem InvF.zero (h0 : ∀ r, r < 4 → len r = 0) : InvF 0 rl ix len ck bf where
  role k hk := by omega
  cover r i hr hi := by rw [h0 r hr] at hi; omega
  mono j k _ hk := by omega
  cklen k hk := by omega
  ckpos k a hk := by omega
  own k hk := by omega
  causal k j hk := by omega
  bfl k j hk := by omega
  trans k j i hk := by omega
  same j k _ hk := by omega
/-- The clocks of the past. -/
def PastC (n r : Nat) (rl ix len : Nat → Nat) (ck : Nat → List Int) (P : List Int) : Prop := (len r = 0 ∧ ∀ a, a < 4 → P.getD a 0 = 0) ∨ ∃ k, k < n ∧ rl k = r ∧ ix k + 1 = len r ∧ ∀ a, a < 4 → P.getD a 0 = (ck k).getD a 0
def MsgC (n : Nat) (msg : Option Nat) (ck : Nat → List Int) (M : List Int) : Prop := match msg with
  | none => ∀ a, a < 4 → M.getD a 0 = 0
  | some m => m < n ∧ ∀ a, a < 4 → M.getD a 0 = (ck m).getD a 0
set_option maxRecDepth 100000 in
theorem PastC.rng (h : InvF n rl ix len ck bf) {r : Nat} {P : List Int} (hP : PastC n r rl ix len ck P) : ∀ a, a < 4 → 0 ≤ P.getD a 0 ∧ P.getD a 0 ≤ len a := fun a ha => by
  rcases hP with ⟨h0, hz⟩ | ⟨k, hk, h1, h2, h3⟩
  · rw [hz a ha]; omega
  · rw [h3 a ha]; exact h.ckpos k a hk ha
set_option maxRecDepth 100000 in
theorem PastC.own (h : InvF n rl ix len ck bf) {r : Nat} (hr : r < 4) {P : List Int} (hP : PastC n r rl ix len ck P) : P.getD r 0 = len r := by
  rcases hP with ⟨h0, hz⟩ | ⟨k, hk, h1, h2, h3⟩
  · rw [hz r hr, h0]; rfl
  · rw [h3 r hr, ← h1, h.own k hk, h1]; omega
set_option maxRecDepth 100000 in
theorem MsgC.rng (h : InvF n rl ix len ck bf) {msg : Option Nat} {M : List Int} (hM : MsgC n msg ck M) : ∀ a, a < 4 → 0 ≤ M.getD a 0 ∧ M.getD a 0 ≤ len a := fun a ha => by
  cases msg with
  | none => have := hM a ha; omega
  | some m => obtain ⟨hm, h1⟩ := hM; rw [h1 a ha]; exact h.ckpos m a hm ha
set_option maxRecDepth 100000 in
/-- A further event. -/
theorem InvF.step (h : InvF n rl ix len ck bf) {rl' ix' len' : Nat → Nat} {ck' : Nat → List Int} {bf' : Nat → Nat → Prop} {r : Nat} {msg : Option Nat} {P M : List Int} (hr : r < 4) (hP : PastC n r rl ix len ck P) (hM : MsgC n msg ck M)
    (h1 : ∀ k, k < n → rl' k = rl k) (h2 : ∀ k, k < n → ix' k = ix k) (h3 : ∀ a, a < 4 → a ≠ r → len' a = len a) (h4 : ∀ k, k < n → ck' k = ck k) (h5 : ∀ k j, k < n → (bf' k j ↔ bf k j))
    (n1 : rl' n = r) (n2 : ix' n = len r) (n3 : len' r = len r + 1) (n4 : (ck' n).length = 4) (n5 : (ck' n).getD r 0 = (len r : Int) + 1) (n6 : ∀ a, a < 4 → a ≠ r → (ck' n).getD a 0 = max (P.getD a 0) (M.getD a 0))
    (n7 : ∀ j, bf' n j ↔ (j < n ∧ (rl j = r ∨ msg = some j)) ∨ ∃ k, k < n ∧ (rl k = r ∨ msg = some k) ∧ bf k j) : InvF (n + 1) rl' ix' len' ck' bf' := by
  have hlen : ∀ a, a < 4 → (len a : Int) ≤ len' a := fun a ha => by
    by_cases e : a = r
    · subst e; omega
    · rw [h3 a ha e]; exact Int.le_refl _
  have hlast : ∀ k, k < n → rl k = r → ∃ k1, k1 < n ∧ rl k1 = r ∧ ix k1 + 1 = len r ∧ (∀ a, a < 4 → P.getD a 0 = (ck k1).getD a 0) ∧ (k = k1 ∨ bf k1 k) := fun k hk e => by
    rcases hP with ⟨h0, -⟩ | ⟨k1, hk1, g1, g2, g3⟩
    · have := (h.role k hk).2; rw [e] at this; omega
    · refine ⟨k1, hk1, g1, g2, g3, ?_⟩
      rcases Nat.lt_trichotomy k k1 with g | g | g
      · exact .inr (h.same k k1 g hk1 (e.trans g1.symm))
      · exact .inl g
      · have := h.mono k1 k g hk (g1.trans e.symm)
        have := (h.role k hk).2
        rw [e] at this
        omega
  have hbl : ∀ j, bf' n j → j < n := fun j hb => by
    rcases (n7 j).1 hb with ⟨g, -⟩ | ⟨k, g1, -, g2⟩
    · exact g
    · have := h.bfl k j g1 g2; omega
  have hnew : ∀ j, j < n → ((ix j : Int) + 1 ≤ (ck' n).getD (rl j) 0 ↔ bf' n j) := fun j hj => by
    obtain ⟨j4, jl⟩ := h.role j hj
    rw [n7]
    by_cases e : rl j = r
    · rw [e, n5]
      rw [e] at jl
      constructor
      · intro _; exact .inl ⟨hj, .inl rfl⟩
      · intro _; omega
    · rw [n6 _ j4 e]
      constructor
      · intro hx
        have hx : (ix j : Int) + 1 ≤ P.getD (rl j) 0 ∨ (ix j : Int) + 1 ≤ M.getD (rl j) 0 := by omega
        rcases hx with hx | hx
        · rcases hP with ⟨h0, hz⟩ | ⟨k1, hk1, g1, g2, g3⟩
          · rw [hz _ j4] at hx; omega
          · rw [g3 _ j4] at hx
            rcases (h.causal k1 j hk1 hj).1 hx with g | g
            · subst g; exact absurd g1 e
            · exact .inr ⟨k1, hk1, .inl g1, g⟩
        · cases hmsg : msg with
          | none => rw [hmsg] at hM; have := hM _ j4; omega
          | some m =>
            rw [hmsg] at hM
            obtain ⟨hm, g1⟩ := hM
            rw [g1 _ j4] at hx
            rcases (h.causal m j hm hj).1 hx with g | g
            · subst g; exact .inl ⟨hj, .inr rfl⟩
            · exact .inr ⟨m, hm, .inr rfl, g⟩
      · have hmg : ∀ k, k < n → msg = some k → (j = k ∨ bf k j) → (ix j : Int) + 1 ≤ M.getD (rl j) 0 := fun k hk e2 hb => by
          rw [e2] at hM
          rw [hM.2 _ j4]
          exact (h.causal k j hk hj).2 hb
        rintro (⟨-, g | g⟩ | ⟨k, hk, g | g, hb⟩)
        · exact absurd g e
        · have := hmg j hj g (.inl rfl); omega
        · obtain ⟨k1, hk1, g1, g2, g3, g4⟩ := hlast k hk g
          have : bf k1 j := by
            rcases g4 with rfl | g4
            · exact hb
            · exact h.trans k1 k j hk1 g4 hb
          have := (h.causal k1 j hk1 hj).2 (.inr this)
          rw [g3 _ j4]
          omega
        · have := hmg k hk g (.inr hb); omega
  refine ⟨?_, ?_, ?_, ?_, ?_, ?_, ?_, ?_, ?_, ?_⟩
  · intro k hk
    rcases Nat.lt_or_ge k n with g | g
    · obtain ⟨g1, g2⟩ := h.role k g
      rw [h1 k g, h2 k g]
      have := hlen _ g1
      exact ⟨g1, by omega⟩
    · obtain rfl : k = n := by omega
      rw [n1, n2, n3]
      exact ⟨hr, by omega⟩
  · intro a i ha hi
    by_cases e : a = r
    · subst e
      rw [n3] at hi
      rcases Nat.lt_or_ge i (len a) with g | g
      · obtain ⟨k, hk, g1, g2⟩ := h.cover a i ha g
        exact ⟨k, by omega, by rw [h1 k hk, g1], by rw [h2 k hk, g2]⟩
      · exact ⟨n, by omega, n1, by rw [n2]; omega⟩
    · rw [h3 a ha e] at hi
      obtain ⟨k, hk, g1, g2⟩ := h.cover a i ha hi
      exact ⟨k, by omega, by rw [h1 k hk, g1], by rw [h2 k hk, g2]⟩
  · intro j k hj hk e
    rcases Nat.lt_or_ge k n with g | g
    · rw [h1 j (by omega), h1 k g] at e
      rw [h2 j (by omega), h2 k g]
      exact h.mono j k hj g e
    · obtain rfl : k = n := by omega
      rw [h1 j hj, n1] at e
      rw [h2 j hj, n2]
      have := (h.role j hj).2
      rwa [e] at this
  · intro k hk
    rcases Nat.lt_or_ge k n with g | g
    · rw [h4 k g]; exact h.cklen k g
    · obtain rfl : k = n := by omega
      exact n4
  · intro k a hk ha
    rcases Nat.lt_or_ge k n with g | g
    · rw [h4 k g]
      have := h.ckpos k a g ha
      have := hlen a ha
      omega
    · obtain rfl : k = n := by omega
      by_cases e : a = r
      · subst e; rw [n5, n3]; omega
      · rw [n6 a ha e, h3 a ha e]
        have := hP.rng h a ha
        have := hM.rng h a ha
        omega
  · intro k hk
    rcases Nat.lt_or_ge k n with g | g
    · rw [h4 k g, h1 k g, h2 k g]; exact h.own k g
    · obtain rfl : k = n := by omega
      rw [n1, n2, n5]
  · intro k j hk hj
    rcases Nat.lt_or_ge k n with g | g
    · rw [h4 k g, h5 k j g]
      rcases Nat.lt_or_ge j n with g2 | g2
      · rw [h1 j g2, h2 j g2]; exact h.causal k j g g2
      · obtain rfl : j = n := by omega
        rw [n1, n2]
        have := (h.ckpos k r g hr).2
        constructor
        · intro _; omega
        · rintro (g3 | g3)
          · omega
          · have := h.bfl k j g g3; omega
    · obtain rfl : k = n := by omega
      rcases Nat.lt_or_ge j k with g2 | g2
      · rw [h1 j g2, h2 j g2, hnew j g2]
        exact ⟨.inr, fun g3 => g3.resolve_left (by omega)⟩
      · obtain rfl : j = k := by omega
        rw [n1, n2, n5]
        exact ⟨fun _ => .inl rfl, fun _ => Int.le_refl _⟩
  · intro k j hk hb
    rcases Nat.lt_or_ge k n with g | g
    · exact h.bfl k j g ((h5 k j g).1 hb)
    · obtain rfl : k = n := by omega
      exact hbl j hb
  · intro k j i hk hb hb2
    rcases Nat.lt_or_ge k n with g | g
    · have g2 := (h5 k j g).1 hb
      have := h.bfl k j g g2
      exact (h5 k i g).2 (h.trans k j i g g2 ((h5 j i (by omega)).1 hb2))
    · obtain rfl : k = n := by omega
      have hj := hbl j hb
      have hb3 := (h5 j i hj).1 hb2
      rcases (n7 j).1 hb with ⟨-, g2⟩ | ⟨m, g1, g2, g3⟩
      · exact (n7 i).2 (.inr ⟨j, hj, g2, hb3⟩)
      · exact (n7 i).2 (.inr ⟨m, g1, g2, h.trans m j i g1 g3 hb3⟩)
  · intro j k hj hk e
    rcases Nat.lt_or_ge k n with g | g
    · rw [h1 j (by omega), h1 k g] at e
      exact (h5 k j g).2 (h.same j k hj g e)
    · obtain rfl : k = n := by omega
      rw [h1 j hj, n1] at e
      exact (n7 j).2 (.inl ⟨hj, .inl e⟩)
set_option maxRecDepth 100000 in
/-- Before, by the clocks. -/
theorem InvF.le (h : InvF n rl ix len ck bf) {k i : Nat} (hki : k < i) (hi : i < n) : (leB (ck k) (ck i) = true ↔ bf i k) ∧ leB (ck i) (ck k) = false := by
  have hk : k < n := by omega
  have l1 := h.cklen k hk
  have l2 := h.cklen i hi
  refine ⟨?_, ?_⟩
  · rw [leB_iff _ _ (by rw [l1, l2])]
    constructor
    · intro hx
      have := hx (rl k) (by rw [l1]; exact (h.role k hk).1)
      rw [h.own k hk] at this
      rcases (h.causal i k hi hk).1 this with g | g
      · omega
      · exact g
    · intro hb a ha
      rw [l1] at ha
      obtain ⟨p0, p1⟩ := h.ckpos k a hk ha
      rcases Int.lt_or_le 0 ((ck k).getD a 0) with g | g
      · obtain ⟨m, hm⟩ : ∃ m : Nat, (ck k).getD a 0 = (m : Int) + 1 := ⟨((ck k).getD a 0 - 1).toNat, by omega⟩
        rw [hm] at p1 ⊢
        obtain ⟨j, hj, e1, e2⟩ := h.cover a m ha (by omega)
        subst e1; subst e2
        have : bf i j := by
          rcases (h.causal k j hk hj).1 (by omega) with g2 | g2
          · rw [g2]; exact hb
          · exact h.trans i k j hi hb g2
        exact (h.causal i j hi hj).2 (.inr this)
      · have := (h.ckpos i a hi ha).1
        omega
  · rw [Bool.eq_false_iff]
    intro hx
    rw [leB_iff _ _ (by rw [l1, l2])] at hx
    have := hx (rl i) (by rw [l2]; exact (h.role i hi).1)
    rw [h.own i hi] at this
    rcases (h.causal k i hk hi).1 this with g | g
    · omega
    · have := h.bfl k i hk g; omega
set_option maxRecDepth 100000 in
theorem InvF.before (h : InvF n rl ix len ck bf) {k i : Nat} (hki : k < i) (hi : i < n) : (beforeB (ck k) (ck i) = true ↔ bf i k) ∧ beforeB (ck i) (ck k) = false := by
  obtain ⟨h1, h2⟩ := h.le hki hi
  have hk : k < n := by omega
  have l1 := h.cklen k hk
  have l2 := h.cklen i hi
  have hne : ck k ≠ ck i := fun e => by
    rw [e, (leB_iff _ _ rfl).2 fun _ _ => Int.le_refl _] at h2
    cases h2
  constructor
  · unfold beforeB
    rw [decide_eq_true (by rw [l1, l2]), decide_eq_false hne, ← h1]
    simp
  · unfold beforeB
    rw [h2]
    simp
set_option maxRecDepth 100000 in
/-- Where not all is taken, the first event that is not taken is ready. -/
theorem InvF.ready (h : InvF n rl ix len ck bf) {t : Nat → Nat} {a0 : Nat} (ha0 : a0 < 4) (h0 : t a0 < len a0) : ∃ k, k < n ∧ ix k = t (rl k) ∧ ∀ a, a < 4 → a ≠ rl k → (ck k).getD a 0 ≤ (t a : Int) := by
  have hex : ∃ k, k < n ∧ t (rl k) ≤ ix k := by
    obtain ⟨k, hk, e1, e2⟩ := h.cover a0 (t a0) ha0 h0
    exact ⟨k, hk, by rw [e1, e2]; exact Nat.le_refl _⟩
  have hmin : ∃ k, (k < n ∧ t (rl k) ≤ ix k) ∧ ∀ j, j < k → ¬ (j < n ∧ t (rl j) ≤ ix j) := by
    obtain ⟨k0, hk0⟩ := hex
    have key : ∀ m, (∃ k, k < m ∧ (k < n ∧ t (rl k) ≤ ix k) ∧ ∀ j, j < k → ¬ (j < n ∧ t (rl j) ≤ ix j)) ∨ ∀ j, j < m → ¬ (j < n ∧ t (rl j) ≤ ix j) := by
      intro m
      induction m with
      | zero => exact .inr fun j hj => by omega
      | succ m ih =>
        rcases ih with ⟨k, h1, h2⟩ | ih
        · exact .inl ⟨k, by omega, h2⟩
        · by_cases hm : m < n ∧ t (rl m) ≤ ix m
          · exact .inl ⟨m, by omega, hm, ih⟩
          · exact .inr fun j hj => by
              by_cases e : j = m
              · rw [e]; exact hm
              · exact ih j (by omega)
    rcases key (k0 + 1) with ⟨k, -, h2⟩ | h2
    · exact ⟨k, h2⟩
    · exact absurd hk0 (h2 k0 (by omega))
  obtain ⟨k, ⟨hk, hge⟩, hlt⟩ := hmin
  have hsm : ∀ j, j < k → ix j < t (rl j) := fun j hj => by
    have := hlt j hj
    omega
  refine ⟨k, hk, ?_, fun a ha hne => ?_⟩
  · rcases Nat.lt_or_ge (t (rl k)) (ix k) with g | g
    · obtain ⟨r4, il⟩ := h.role k hk
      obtain ⟨j, hj, e1, e2⟩ := h.cover (rl k) (t (rl k)) r4 (by omega)
      rcases Nat.lt_trichotomy j k with g2 | g2 | g2
      · have := hsm j g2
        rw [e1, e2] at this
        omega
      · subst g2; omega
      · have := h.mono k j g2 hj e1.symm
        omega
    · omega
  · obtain ⟨p0, p1⟩ := h.ckpos k a hk ha
    rcases Int.lt_or_le 0 ((ck k).getD a 0) with g | g
    · obtain ⟨m, hm⟩ : ∃ m : Nat, (ck k).getD a 0 = (m : Int) + 1 := ⟨((ck k).getD a 0 - 1).toNat, by omega⟩
      rw [hm] at p1 ⊢
      obtain ⟨j, hj, e1, e2⟩ := h.cover a m ha (by omega)
      subst e1; subst e2
      rcases (h.causal k j hk hj).1 (by omega) with g2 | g2
      · subst g2; exact absurd rfl hne
      · have := hsm j (h.bfl k j hk g2)
        omega
    · omega
end
end Go.Proofs.Ytbanngdijmglbaa
