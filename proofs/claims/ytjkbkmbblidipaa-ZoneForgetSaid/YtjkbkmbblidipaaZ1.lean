/- Difference bounds: the least bounds of a zone (no program in sight). -/
import Derived.Test.YtjkbkmbblidipaaLJ
namespace Go.Proofs.Ytjkbkmbblidipaa

/- MATRICES IN LISTS -/
/-- Entry (i, j) of a square matrix of n rows. -/
def mt (n : Nat) (L : List Int) (i j : Nat) : Int := L.getD (i * n + j) 0
set_option maxRecDepth 100000 in
theorem idx_lt {n i j : Nat} (hi : i < n) (hj : j < n) : i * n + j < n * n := by
  have : (i + 1) * n ≤ n * n := Nat.mul_le_mul_right n hi
  rw [Nat.add_mul] at this
  omega
set_option maxRecDepth 100000 in
theorem idx_div {n i j : Nat} (hj : j < n) : (i * n + j) / n = i := by
  rw [Nat.mul_comm, Nat.mul_add_div (by omega), Nat.div_eq_of_lt hj, Nat.add_zero]
set_option maxRecDepth 100000 in
theorem idx_mod {n i j : Nat} (hj : j < n) : (i * n + j) % n = j := by
  rw [Nat.mul_comm, Nat.mul_add_mod, Nat.mod_eq_of_lt hj]
set_option maxRecDepth 100000 in
theorem idx_inj {n i j a b : Nat} (hj : j < n) (hb : b < n) (h : i * n + j = a * n + b) : i = a ∧ j = b := by
  have h1 := idx_div (i := i) hj
  have h2 := idx_mod (i := i) hj
  rw [h, idx_div hb] at h1
  rw [h, idx_mod hb] at h2
  exact ⟨h1.symm, h2.symm⟩
set_option maxRecDepth 100000 in
theorem mt_set {n i j a b : Nat} {L : List Int} {v : Int} (hl : L.length = n * n) (hi : i < n) (hj : j < n) (hb : b < n) : mt n (L.set (i * n + j) v) a b = if a = i ∧ b = j then v else mt n L a b := by
  have hlt := idx_lt hi hj
  unfold mt
  rw [List.getD_eq_getElem?_getD, List.getD_eq_getElem?_getD, List.getElem?_set]
  by_cases h : a = i ∧ b = j
  · obtain ⟨rfl, rfl⟩ := h
    simp [hl, hlt]
  · rw [if_neg h, if_neg]
    intro e
    have := idx_inj hj hb e
    exact h ⟨this.1.symm, this.2.symm⟩
set_option maxRecDepth 100000 in
theorem mt_ext {n : Nat} {L L' : List Int} (h1 : L.length = n * n) (h2 : L'.length = n * n) (h : ∀ a b, a < n → b < n → mt n L a b = mt n L' a b) : L = L' := by
  refine List.ext_getElem (h1.trans h2.symm) fun p hp hp' => ?_
  have hn : 0 < n := by
    rcases Nat.eq_zero_or_pos n with h0 | h0
    · subst h0; simp at h1; subst h1; simp at hp
    · exact h0
  have ha : p / n < n := by rw [Nat.div_lt_iff_lt_mul hn]; omega
  have hb : p % n < n := Nat.mod_lt _ hn
  have := h _ _ ha hb
  unfold mt at this
  rw [Nat.div_add_mod'] at this
  simpa [List.getD_eq_getElem?_getD, hp, hp'] using this

/- TWO LOOPS OVER A MATRIX -/
section
variable (n : Nat) (u : Nat → Nat → List Int → Int)
def sJ (i : Nat) : Nat → List Int → List Int
  | 0, L => L
  | j + 1, L => let K := sJ i j L; K.set (i * n + j) (u i j K)
def sI : Nat → List Int → List Int
  | 0, L => L
  | i + 1, L => sJ n u i n (sI i L)
end
section
variable {n : Nat} {u : Nat → Nat → List Int → Int}
set_option maxRecDepth 100000 in
theorem sJ_len (i : Nat) (L : List Int) : ∀ j, (sJ n u i j L).length = L.length
  | 0 => rfl
  | j + 1 => by simp [sJ, sJ_len i L j]
set_option maxRecDepth 100000 in
theorem sI_len (L : List Int) : ∀ i, (sI n u i L).length = L.length
  | 0 => rfl
  | i + 1 => by rw [sI, sJ_len, sI_len L i]
set_option maxRecDepth 100000 in
theorem sI_inv {L : List Int} (Inv : Nat → Nat → List Int → Prop) (h0 : Inv 0 0 L) (hs : ∀ i j K, i < n → j < n → K.length = L.length → Inv i j K → Inv i (j + 1) (K.set (i * n + j) (u i j K))) (hr : ∀ i K, Inv i n K → Inv (i + 1) 0 K) :
    ∀ i, i ≤ n → Inv i 0 (sI n u i L) := by
  have hj : ∀ i K, i < n → K.length = L.length → Inv i 0 K → ∀ j, j ≤ n → Inv i j (sJ n u i j K) := by
    intro i K hi hK h j
    induction j with
    | zero => intro _; exact h
    | succ j ih => intro hj; exact hs i j _ hi (by omega) (by rw [sJ_len, hK]) (ih (by omega))
  intro i
  induction i with
  | zero => intro _; exact h0
  | succ i ih => intro hi; exact hr i _ (hj i _ (by omega) (sI_len _ _) (ih (by omega)) n (Nat.le_refl _))
/-- What is behind (i, j). -/
abbrev Bef (i j a b : Nat) : Prop := a < i ∨ (a = i ∧ b < j)
set_option maxRecDepth 100000 in
/-- Each entry by itself. -/
theorem sI_each {L : List Int} (hl : L.length = n * n) (w : Nat → Nat → Int → Int) (hu : ∀ i j K, u i j K = w i j (mt n K i j)) {a b : Nat} (ha : a < n) (hb : b < n) : mt n (sI n u n L) a b = w a b (mt n L a b) := by
  have := sI_inv (n := n) (u := u) (L := L) (fun i j K => ∀ a b, a < n → b < n → mt n K a b = if Bef i j a b then w a b (mt n L a b) else mt n L a b) (by intro a b _ _; simp [Bef])
    (by
      intro i j K hi hj hK h a b ha hb
      rw [mt_set (hK.trans hl) hi hj hb, hu, h a b ha hb, h i j hi hj]
      by_cases e : a = i ∧ b = j
      · obtain ⟨rfl, rfl⟩ := e
        simp [Bef]
      · rw [if_neg e]
        have : Bef i (j + 1) a b ↔ Bef i j a b := by unfold Bef; omega
        simp only [this])
    (by
      intro i K h a b ha hb
      rw [h a b ha hb]
      have : Bef (i + 1) 0 a b ↔ Bef i n a b := by unfold Bef; omega
      simp only [this])
    n (Nat.le_refl _) a b ha hb
  rw [this, if_pos (.inl ha)]
end

/- THE LEAST BOUNDS -/
abbrev Mat := Nat → Nat → Int
def Leq (n : Nat) (M M' : Mat) : Prop := ∀ a b, a < n → b < n → M a b ≤ M' a b
def Clo (n : Nat) (M : Mat) : Prop := ∀ a b k, a < n → b < n → k < n → M a b ≤ M a k + M k b
def Dg (n : Nat) (M : Mat) : Prop := ∀ a, a < n → 0 ≤ M a a
/-- One way through k. -/
def rx (c : Int → Int) (n k : Nat) (i j : Nat) (K : List Int) : Int := min (mt n K i j) (c (mt n K i k + mt n K k j))
def fw (c : Int → Int) (n : Nat) : Nat → List Int → List Int
  | 0, L => L
  | k + 1, L => sI n (rx c n k) n (fw c n k L)
/-- A sum, or the bound that nothing keeps. -/
def Cut (c : Int → Int) : Prop := ∀ x, c x = x ∨ (c x = -20001 ∧ x < -20001)
set_option maxRecDepth 100000 in
theorem cut_id : Cut id := fun _ => .inl rfl
set_option maxRecDepth 100000 in
theorem cut_max : Cut (max (-20001)) := fun x => by rcases Int.lt_or_le x (-20001) with h | h <;> omega
section
variable {c : Int → Int} {n : Nat} {L : List Int}
set_option maxRecDepth 100000 in
theorem Cut.le (hc : Cut c) (x : Int) : x ≤ c x := by rcases hc x with h | h <;> omega
set_option maxRecDepth 100000 in
theorem fw_len : ∀ k, (fw c n k L).length = L.length
  | 0 => rfl
  | k + 1 => by rw [fw, sI_len, fw_len k]
set_option maxRecDepth 100000 in
/-- Bounds only fall. -/
theorem rx_le (k : Nat) (hl : L.length = n * n) {a b : Nat} (ha : a < n) (hb : b < n) : mt n (sI n (rx c n k) n L) a b ≤ mt n L a b :=
  sI_inv (u := rx c n k) (fun _ _ K => ∀ a b, a < n → b < n → mt n K a b ≤ mt n L a b) (fun _ _ _ _ => Int.le_refl _)
    (fun i j K hi hj hK h a b ha hb => by
      rw [mt_set (hK.trans hl) hi hj hb]
      split
      · rename_i e
        obtain ⟨rfl, rfl⟩ := e
        have := h a b ha hb
        unfold rx
        omega
      · exact h a b ha hb)
    (fun _ _ h => h) n (Nat.le_refl _) a b ha hb
set_option maxRecDepth 100000 in
theorem fw_le (hl : L.length = n * n) {a b : Nat} (ha : a < n) (hb : b < n) {k k' : Nat} (h : k ≤ k') : mt n (fw c n k' L) a b ≤ mt n (fw c n k L) a b := by
  induction h with
  | refl => exact Int.le_refl _
  | step _ ih => exact Int.le_trans (rx_le _ (by rw [fw_len, hl]) ha hb) ih
set_option maxRecDepth 100000 in
/-- They never fall below bounds that are closed. -/
theorem rx_ge (hc : Cut c) {D : Mat} (hD : Clo n D) {k : Nat} (hk : k < n) (hl : L.length = n * n) (h : Leq n D (mt n L)) : Leq n D (mt n (sI n (rx c n k) n L)) :=
  sI_inv (u := rx c n k) (fun _ _ K => Leq n D (mt n K)) h
    (fun i j K hi hj hK h a b ha hb => by
      rw [mt_set (hK.trans hl) hi hj hb]
      split
      · rename_i e
        obtain ⟨rfl, rfl⟩ := e
        have h1 := h a b ha hb
        have h2 := h a k ha hk
        have h3 := h k b hk hb
        have h4 := hD a b k ha hb hk
        have h5 := hc.le (mt n K a k + mt n K k b)
        unfold rx
        omega
      · exact h a b ha hb)
    (fun _ _ h => h) n (Nat.le_refl _)
set_option maxRecDepth 100000 in
theorem fw_ge (hc : Cut c) {D : Mat} (hD : Clo n D) (hl : L.length = n * n) (h : Leq n D (mt n L)) : ∀ k, k ≤ n → Leq n D (mt n (fw c n k L))
  | 0, _ => h
  | k + 1, hk => rx_ge hc hD (by omega) (by rw [fw_len, hl]) (fw_ge hc hD hl h k (by omega))
set_option maxRecDepth 100000 in
/-- One round, where the way from k to k is 0. -/
theorem rx_eq (hc : Cut c) {k : Nat} (hk : k < n) (hl : L.length = n * n) (h0 : mt n L k k = 0) {a b : Nat} (ha : a < n) (hb : b < n) : mt n (sI n (rx c n k) n L) a b = min (mt n L a b) (c (mt n L a k + mt n L k b)) := by
  have := sI_inv (u := rx c n k) (L := L) (fun i j K => ∀ a b, a < n → b < n → mt n K a b = if Bef i j a b then min (mt n L a b) (c (mt n L a k + mt n L k b)) else mt n L a b) (by intro a b _ _; simp [Bef])
    (by
      intro i j K hi hj hK h a b ha hb
      have hcol : ∀ a, a < n → mt n K a k = mt n L a k := by
        intro a ha
        rw [h a k ha hk]
        have := hc.le (mt n L a k)
        rw [h0, Int.add_zero]
        split <;> omega
      have hrow : ∀ b, b < n → mt n K k b = mt n L k b := by
        intro b hb
        rw [h k b hk hb]
        have := hc.le (mt n L k b)
        rw [h0, Int.zero_add]
        split <;> omega
      rw [mt_set (hK.trans hl) hi hj hb]
      by_cases e : a = i ∧ b = j
      · obtain ⟨rfl, rfl⟩ := e
        rw [if_pos ⟨rfl, rfl⟩, if_pos (by unfold Bef; omega)]
        unfold rx
        rw [hcol a ha, hrow b hb, h a b ha hb, if_neg (by unfold Bef; omega)]
      · rw [if_neg e, h a b ha hb]
        have : Bef i (j + 1) a b ↔ Bef i j a b := by unfold Bef; omega
        simp only [this])
    (by
      intro i K h a b ha hb
      rw [h a b ha hb]
      have : Bef (i + 1) 0 a b ↔ Bef i n a b := by unfold Bef; omega
      simp only [this])
    n (Nat.le_refl _) a b ha hb
  rw [this, if_pos (.inl ha)]
set_option maxRecDepth 100000 in
/-- Without a negative circle the bounds are closed. -/
theorem fw_closed (hc : Cut c) (hl : L.length = n * n) (hU : ∀ a b, a < n → b < n → mt n L a b ≤ 20000) (hz : ∀ a, a < n → mt n L a a ≤ 0) (hd : Dg n (mt n (fw c n n L))) : Clo n (mt n (fw c n n L)) := by
  have hlen : ∀ k, (fw c n k L).length = n * n := fun k => by rw [fw_len, hl]
  have h0 : ∀ k a, k ≤ n → a < n → mt n (fw c n k L) a a = 0 := by
    intro k a hk ha
    have h1 := fw_le (c := c) hl ha ha hk
    have h2 := fw_le (c := c) hl ha ha (Nat.zero_le k)
    have h3 := hd a ha
    have h4 := hz a ha
    simp only [fw] at h2
    omega
  have hUk : ∀ k a b, a < n → b < n → mt n (fw c n k L) a b ≤ 20000 := by
    intro k a b ha hb
    have h2 := fw_le (c := c) hl ha hb (Nat.zero_le k)
    have h4 := hU a b ha hb
    simp only [fw] at h2
    omega
  have hs : ∀ k a b, k < n → a < n → b < n → mt n (fw c n (k + 1) L) a b = min (mt n (fw c n k L) a b) (c (mt n (fw c n k L) a k + mt n (fw c n k L) k b)) := by
    intro k a b hk ha hb
    exact rx_eq hc hk (hlen k) (h0 k k (by omega) hk) ha hb
  have hA : ∀ a b, a < n → b < n → -20000 ≤ mt n (fw c n b L) a b ∧ -20000 ≤ mt n (fw c n b L) b a := by
    intro a b ha hb
    have h1 := hs b a a hb ha ha
    have h2 := h0 (b + 1) a (by omega) ha
    have h3 := hUk b a b ha hb
    have h4 := hUk b b a hb ha
    rcases hc (mt n (fw c n b L) a b + mt n (fw c n b L) b a) with h5 | h5 <;> omega
  have key : ∀ k, k ≤ n → ∀ a b k', a < n → b < n → k' < k → mt n (fw c n k L) a b ≤ mt n (fw c n k L) a k' + mt n (fw c n k L) k' b := by
    intro k
    induction k with
    | zero => intro _ a b k' _ _ h; omega
    | succ k ih =>
      intro hk
      have hkn : k < n := by omega
      have P := ih (by omega)
      have ne : ∀ a b, a < n → b < n → c (mt n (fw c n k L) a k + mt n (fw c n k L) k b) = mt n (fw c n k L) a k + mt n (fw c n k L) k b := by
        intro a b ha hb
        rcases hc (mt n (fw c n k L) a k + mt n (fw c n k L) k b) with h5 | ⟨h5, h6⟩
        · exact h5
        · exfalso
          have h1 := hs k a b hkn ha hb
          rw [h5] at h1
          have h7 := h0 k k (by omega) hkn
          rcases Nat.lt_trichotomy b k with hbk | hbk | hbk
          · rcases Nat.lt_trichotomy a k with hak | hak | hak
            · have e1 := P b k a hb hkn hak
              have e2 := P k k b hkn hkn hbk
              have e3 := hUk k b a hb ha
              omega
            · subst hak
              have := (hA b a hb ha).2
              omega
            · have e1 := (hA b a hb ha).2
              have e2 := fw_le (c := c) hl ha hb (show k + 1 ≤ a from hak)
              omega
          · subst hbk
            have := (hA a b ha hb).1
            omega
          · have e1 := (hA a b ha hb).1
            have e2 := fw_le (c := c) hl ha hb (show k + 1 ≤ b from hbk)
            omega
      intro a b k' ha hb hk'
      have hk'n : k' < n := by omega
      have s1 := hs k a b hkn ha hb
      have s2 := hs k a k' hkn ha hk'n
      have s3 := hs k k' b hkn hk'n hb
      rw [ne a b ha hb] at s1
      rw [ne a k' ha hk'n] at s2
      rw [ne k' b hk'n hb] at s3
      have z := h0 k k (by omega) hkn
      rcases Nat.lt_or_ge k' k with hlt | hge
      · have p1 := P a b k' ha hb hlt
        have p2 := P k b k' hkn hb hlt
        have p3 := P a k k' ha hkn hlt
        have p4 := P k k k' hkn hkn hlt
        omega
      · have : k' = k := by omega
        subst this
        omega
  exact fun a b k ha hb hk => key n (Nat.le_refl _) a b k ha hb hk
end
/-- The greatest closed bounds below M. -/
structure Best (n : Nat) (M : Mat) (L : List Int) : Prop where
  len : L.length = n * n
  le : Leq n (mt n L) M
  clo : Clo n (mt n L)
  dg : Dg n (mt n L)
  max : ∀ D, Clo n D → Leq n D M → Leq n D (mt n L)
set_option maxRecDepth 100000 in
theorem Best.unique {n : Nat} {M : Mat} {L L' : List Int} (h : Best n M L) (h' : Best n M L') : L = L' :=
  mt_ext h.len h'.len fun a b ha hb => Int.le_antisymm (h'.max _ h.clo h.le a b ha hb) (h.max _ h'.clo h'.le a b ha hb)
section
variable {c : Int → Int} {n : Nat} {L : List Int}
set_option maxRecDepth 100000 in
theorem fw_best (hc : Cut c) (hl : L.length = n * n) (hU : ∀ a b, a < n → b < n → mt n L a b ≤ 20000) (hz : ∀ a, a < n → mt n L a a ≤ 0) (hd : Dg n (mt n (fw c n n L))) : Best n (mt n L) (fw c n n L) :=
  ⟨by rw [fw_len, hl], fun a b ha hb => fw_le (k := 0) hl ha hb (Nat.zero_le _), fw_closed hc hl hU hz hd, hd, fun D hD hle => fw_ge hc hD hl hle n (Nat.le_refl _)⟩
set_option maxRecDepth 100000 in
theorem fw_dg (hc : Cut c) (hl : L.length = n * n) {D : Mat} (hD : Clo n D) (h0 : Dg n D) (h : Leq n D (mt n L)) : Dg n (mt n (fw c n n L)) := fun a ha => Int.le_trans (h0 a ha) (fw_ge hc hD hl h n (Nat.le_refl _) a a ha ha)
set_option maxRecDepth 100000 in
theorem fw_same {c' : Int → Int} (hc : Cut c) (hc' : Cut c') (hl : L.length = n * n) (hU : ∀ a b, a < n → b < n → mt n L a b ≤ 20000) (hz : ∀ a, a < n → mt n L a a ≤ 0) :
    (Dg n (mt n (fw c n n L)) ↔ Dg n (mt n (fw c' n n L))) ∧ (Dg n (mt n (fw c n n L)) → fw c n n L = fw c' n n L) := by
  have h1 : Dg n (mt n (fw c n n L)) → Dg n (mt n (fw c' n n L)) := fun h => fw_dg hc' hl (fw_best hc hl hU hz h).clo h (fw_best hc hl hU hz h).le
  have h2 : Dg n (mt n (fw c' n n L)) → Dg n (mt n (fw c n n L)) := fun h => fw_dg hc hl (fw_best hc' hl hU hz h).clo h (fw_best hc' hl hU hz h).le
  exact ⟨⟨h1, h2⟩, fun h => (fw_best hc hl hU hz h).unique (fw_best hc' hl hU hz (h1 h))⟩
end
end Go.Proofs.Ytjkbkmbblidipaa
