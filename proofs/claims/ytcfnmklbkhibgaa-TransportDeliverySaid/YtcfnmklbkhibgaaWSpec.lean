/- The plain law of layer 1: encodings as lists of bytes, and what is read back. Nothing of the program. -/
namespace Go.Proofs.Ytcfnmklbkhibgaa

/- Unsigned numbers, seven bits a byte, the least first. -/
def encU (u : Nat) : List UInt8 := if h : u < 128 then [UInt8.ofNat u] else UInt8.ofNat (u % 128 + 128) :: encU (u / 128)
termination_by u
decreasing_by omega
theorem encU_small {u : Nat} (h : u < 128) : encU u = [UInt8.ofNat u] := by rw [encU, dif_pos h]
theorem encU_big {u : Nat} (h : 128 ≤ u) : encU u = UInt8.ofNat (u % 128 + 128) :: encU (u / 128) := by rw [encU, dif_neg (by omega)]

def zig (n : Int) : Nat := if 0 ≤ n then 2 * n.toNat else 2 * (-n - 1).toNat + 1
def unzig (u : Nat) : Int := if u % 2 = 1 then -((u / 2 : Nat) : Int) - 1 else ((u / 2 : Nat) : Int)
theorem unzig_zig (n : Int) : unzig (zig n) = n := by
  unfold zig unzig
  split <;> split <;> omega
theorem zig_unzig (u : Nat) : zig (unzig u) = u := by
  unfold zig unzig
  split <;> split <;> omega
theorem zig_inj {n m : Int} (h : zig n = zig m) : n = m := by rw [← unzig_zig n, h, unzig_zig]
theorem zig_lt {n : Int} (h1 : -9223372036854775808 ≤ n) (h2 : n ≤ 9223372036854775807) : zig n < 18446744073709551616 := by
  unfold zig; split <;> omega
def encI (n : Int) : List UInt8 := encU (zig n)
def encB (b : Bool) : List UInt8 := [if b then 1 else 0]
def encBytes (x : List UInt8) : List UInt8 := encI x.length ++ x
def encInts (l : List Int) : List UInt8 := encI l.length ++ l.flatMap encI

theorem encU_ne (u : Nat) : encU u ≠ [] := by
  rw [encU]; split <;> simp

/- Reading: i is the number of bytes before. -/
def rdU : Nat → List UInt8 → Option (Nat × List UInt8)
  | _, [] => none
  | i, c :: r =>
    if 10 ≤ i then none
    else if c.toNat < 128 then (if (c.toNat = 0 ∧ 0 < i) ∨ (i = 9 ∧ 1 < c.toNat) then none else some (c.toNat, r))
    else (rdU (i + 1) r).map fun p => (c.toNat - 128 + 128 * p.1, p.2)

theorem encU_length : ∀ (k u : Nat), u < 128 ^ (k + 1) → (encU u).length ≤ k + 1 := by
  intro k
  induction k with
  | zero => intro u h; rw [encU_small (by simpa using h)]; simp
  | succ k ih =>
    intro u h
    by_cases hs : u < 128
    · rw [encU_small hs]; simp
    · rw [encU_big (by omega)]
      have : u / 128 < 128 ^ (k + 1) := by
        rw [Nat.div_lt_iff_lt_mul (by omega)]
        rw [Nat.pow_succ] at h
        exact h
      have := ih _ this
      simp only [List.length_cons]
      omega
theorem rdU_encU : ∀ (u i : Nat) (r : List UInt8), i ≤ 9 → u * 128 ^ i < 18446744073709551616 → (0 < i → 0 < u) → rdU i (encU u ++ r) = some (u, r) := by
  intro u
  induction u using Nat.strongRecOn with
  | ind u ih =>
    intro i r hi hu h0
    by_cases hs : u < 128
    · rw [encU_small hs]
      have hc : (UInt8.ofNat u).toNat = u := by simp; omega
      simp only [List.cons_append, List.nil_append, rdU, hc]
      rw [if_neg (by omega), if_pos hs, if_neg]
      rintro (⟨h1, h2⟩ | ⟨h1, h2⟩)
      · have := h0 h2; omega
      · subst h1
        have : 2 * 128 ^ 9 ≤ u * 128 ^ 9 := Nat.mul_le_mul_right _ h2
        omega
    · have hb : 128 ≤ u := by omega
      rw [encU_big hb]
      have hc : (UInt8.ofNat (u % 128 + 128)).toNat = u % 128 + 128 := by simp; omega
      simp only [List.cons_append, rdU, hc]
      have hi9 : i + 1 ≤ 9 := by
        rcases Nat.lt_or_ge i 9 with h | h
        · omega
        · have h9 : i = 9 := by omega
          subst h9
          have : 128 * 128 ^ 9 ≤ u * 128 ^ 9 := Nat.mul_le_mul_right _ hb
          omega
      have hpow : (u / 128) * 128 ^ (i + 1) < 18446744073709551616 := by
        have h1 : (u / 128) * 128 ^ (i + 1) = (u / 128 * 128) * 128 ^ i := by rw [Nat.pow_succ, Nat.mul_comm (128 ^ i) 128, ← Nat.mul_assoc]
        rw [h1]
        exact Nat.lt_of_le_of_lt (Nat.mul_le_mul_right _ (Nat.div_mul_le_self u 128)) hu
      rw [if_neg (by omega), if_neg (by omega), ih (u / 128) (by omega) (i + 1) r hi9 hpow (fun _ => by omega)]
      simp only [Option.map_some, Option.some.injEq, Prod.mk.injEq, and_true]
      omega

theorem rdU_canon : ∀ (b : List UInt8) (i u : Nat) (r : List UInt8), rdU i b = some (u, r) → b = encU u ++ r ∧ (0 < i → 0 < u) := by
  intro b
  induction b with
  | nil => intro i u r h; simp [rdU] at h
  | cons c b ih =>
    intro i u r h
    simp only [rdU] at h
    split at h
    · cases h
    · split at h
      · rename_i hc
        split at h
        · cases h
        · rename_i hn
          simp only [Option.some.injEq, Prod.mk.injEq] at h
          obtain ⟨rfl, rfl⟩ := h
          refine ⟨?_, fun h0 => ?_⟩
          · rw [encU_small hc]; simp
          · rcases Nat.eq_zero_or_pos c.toNat with h | h
            · exact absurd (.inl ⟨h, h0⟩) hn
            · exact h
      · rename_i hc
        rw [Option.map_eq_some_iff] at h
        obtain ⟨⟨u', r'⟩, h1, h2⟩ := h
        simp only [Prod.mk.injEq] at h2
        obtain ⟨h2, rfl⟩ := h2
        obtain ⟨hb, hpos⟩ := ih (i + 1) u' r' h1
        have hu' := hpos (by omega)
        have hc2 : c.toNat < 256 := c.toNat_lt
        refine ⟨?_, fun _ => by omega⟩
        have e1 : u % 128 + 128 = c.toNat := by omega
        have e2 : u / 128 = u' := by omega
        rw [hb, encU_big (u := u) (by omega), e1, e2]
        simp

theorem rdU_lt : ∀ (b : List UInt8) (i u : Nat) (r : List UInt8), rdU i b = some (u, r) → i ≤ 9 → u * 128 ^ i < 18446744073709551616 := by
  intro b
  induction b with
  | nil => intro i u r h; simp [rdU] at h
  | cons c b ih =>
    intro i u r h hi
    simp only [rdU] at h
    split at h
    · cases h
    · split at h
      · rename_i hc
        split at h
        · cases h
        · rename_i hn
          simp only [Option.some.injEq, Prod.mk.injEq] at h
          obtain ⟨rfl, rfl⟩ := h
          rcases Nat.lt_or_ge i 9 with h9 | h9
          · have h1 : c.toNat * 128 ^ i ≤ 127 * 128 ^ 8 := Nat.mul_le_mul (by omega) (Nat.pow_le_pow_right (by omega) (by omega))
            omega
          · have hi9 : i = 9 := by omega
            subst hi9
            have hc1 : c.toNat ≤ 1 := by
              rcases Nat.lt_or_ge 1 c.toNat with h | h
              · exact absurd (.inr ⟨rfl, h⟩) hn
              · exact h
            have : c.toNat * 128 ^ 9 ≤ 1 * 128 ^ 9 := Nat.mul_le_mul_right _ hc1
            omega
      · rename_i hc
        rw [Option.map_eq_some_iff] at h
        obtain ⟨⟨u', r'⟩, h1, h2⟩ := h
        simp only [Prod.mk.injEq] at h2
        obtain ⟨h2, rfl⟩ := h2
        rcases Nat.lt_or_ge i 9 with h9 | h9
        · have h3 := ih (i + 1) u' r' h1 (by omega)
          have h4 : u' * 128 ^ (i + 1) = 128 * u' * 128 ^ i := by rw [Nat.pow_succ, Nat.mul_comm (128 ^ i) 128, ← Nat.mul_assoc, Nat.mul_comm u' 128]
          have hdvd : 128 * 128 ^ i ∣ 18446744073709551616 := ⟨2 ^ (64 - 7 * (i + 1)), by
            have : (128 : Nat) = 2 ^ 7 := rfl
            rw [this, ← Nat.pow_mul, ← Nat.pow_add, ← Nat.pow_add]
            have : 7 + 7 * i + (64 - 7 * (i + 1)) = 64 := by omega
            rw [this]⟩
          obtain ⟨q, hq⟩ := hdvd
          have hpos : 0 < 128 ^ i := Nat.pow_pos (by omega)
          -- u' * 128^(i+1) < 128 * 128^i * q gives u' < q
          have h5 : u' < q := by
            rcases Nat.lt_or_ge u' q with h | h
            · exact h
            · have : 128 * 128 ^ i * q ≤ 128 * 128 ^ i * u' := Nat.mul_le_mul_left _ h
              have e : 128 * 128 ^ i * u' = u' * 128 ^ (i + 1) := by rw [Nat.pow_succ, Nat.mul_comm u', Nat.mul_comm (128 ^ i) 128]
              omega
          have h6 : u ≤ 128 * q - 1 := by have := c.toNat_lt; omega
          have h7 : u * 128 ^ i ≤ (128 * q - 1) * 128 ^ i := Nat.mul_le_mul_right _ h6
          have h8 : (128 * q - 1) * 128 ^ i < 128 * q * 128 ^ i := Nat.mul_lt_mul_of_pos_right (by omega) hpos
          have e2 : 128 * q * 128 ^ i = 128 * 128 ^ i * q := by rw [Nat.mul_assoc, Nat.mul_comm q, ← Nat.mul_assoc]
          omega
        · have hi9 : i = 9 := by omega
          subst hi9
          cases b with
          | nil => simp [rdU] at h1
          | cons c' b' => simp [rdU] at h1

theorem rdU_good {i : Nat} {c : UInt8} {r : List UInt8} (h1 : i < 10) (h2 : c.toNat < 128) (h3 : (0 < c.toNat ∨ i = 0) ∧ (i < 9 ∨ c.toNat ≤ 1)) : rdU i (c :: r) = some (c.toNat, r) := by
  rw [rdU, if_neg (by omega), if_pos h2, if_neg (by omega)]
theorem rdU_bad {i : Nat} {c : UInt8} {r : List UInt8} (h1 : i < 10) (h2 : c.toNat < 128) (h3 : (c.toNat = 0 ∧ 0 < i) ∨ (i = 9 ∧ 1 < c.toNat)) : rdU i (c :: r) = none := by
  rw [rdU, if_neg (by omega), if_pos h2, if_pos h3]
theorem rdU_more {i : Nat} {c : UInt8} {r : List UInt8} (h1 : i < 10) (h2 : 128 ≤ c.toNat) : rdU i (c :: r) = (rdU (i + 1) r).map fun p => (c.toNat - 128 + 128 * p.1, p.2) := by
  rw [rdU, if_neg (by omega), if_neg (by omega)]
theorem rdU_ten (r : List UInt8) : rdU (9 + 1) r = none := by
  cases r <;> simp [rdU]
theorem rdU_ten' (r : List UInt8) : rdU 10 r = none := rdU_ten r

/- Readers of parts: what is read, and what is left. -/
def P64 (n : Int) : Prop := -9223372036854775808 ≤ n ∧ n ≤ 9223372036854775807
def rdI (b : List UInt8) : Option (Int × List UInt8) := (rdU 0 b).map fun p => (unzig p.1, p.2)
theorem rdI_enc {n : Int} (h : P64 n) (r : List UInt8) : rdI (encI n ++ r) = some (n, r) := by
  unfold rdI encI
  rw [rdU_encU _ 0 r (by omega) (by simpa using zig_lt h.1 h.2) (by omega)]
  simp [unzig_zig]
theorem rdI_canon {b : List UInt8} {n : Int} {r : List UInt8} (h : rdI b = some (n, r)) : b = encI n ++ r ∧ P64 n := by
  unfold rdI at h
  rw [Option.map_eq_some_iff] at h
  obtain ⟨⟨u, r'⟩, h1, h2⟩ := h
  simp only [Prod.mk.injEq] at h2
  obtain ⟨rfl, rfl⟩ := h2
  have hc := (rdU_canon b 0 u r' h1).1
  have hl := rdU_lt b 0 u r' h1 (by omega)
  refine ⟨by rw [hc, encI, zig_unzig], ?_⟩
  unfold P64 unzig
  split <;> omega
theorem encI_length {n : Int} (h : P64 n) : (encI n).length ≤ 10 := encU_length 9 _ (Nat.lt_of_lt_of_le (zig_lt h.1 h.2) (by decide))
theorem encI_ne (n : Int) : encI n ≠ [] := encU_ne _
theorem encI_inj {n m : Int} (hn : P64 n) (hm : P64 m) {r s : List UInt8} (h : encI n ++ r = encI m ++ s) : n = m ∧ r = s := by
  have h1 := rdI_enc hn r
  rw [h, rdI_enc hm s] at h1
  simp only [Option.some.injEq, Prod.mk.injEq] at h1
  exact ⟨h1.1.symm, h1.2.symm⟩

/- A value, an event. -/
structure Val where
  kind : Int
  n : Int
  s : ByteArray
structure Evt where
  role : Int
  send : Bool
  peer : Int
  label : Int
  values : List Val
def encV (v : Val) : List UInt8 := encI v.kind ++ (if v.kind = 1 then encI v.n else if v.kind = 2 then encBytes v.s.data.toList else [])
def encVals (l : List Val) : List UInt8 := encI l.length ++ l.flatMap encV
def encE (x : Evt) : List UInt8 := encI x.role ++ (encB x.send ++ (encI x.peer ++ (encI x.label ++ encVals x.values)))

end Go.Proofs.Ytcfnmklbkhibgaa
