/- Conversations: one event is before another one exactly if its clock is (no program in sight). -/
import Derived.Test.YtomejdempmbbmaaV6
namespace Go.Proofs.Ytomejdempmbbmaa
open Go.RowKit

/-- Event j is before event i: of one role, or by a message. r: the events' roles; f: the number of the message received (counted from 1). -/
inductive HB (r f : Nat → Nat) : Nat → Nat → Prop
  | step {j i : Nat} : j < i → (r j = r i ∨ j + 1 = f i) → HB r f j i
  | trans {j k i : Nat} : HB r f j k → HB r f k i → HB r f j i
section
variable {r f : Nat → Nat}
theorem HB.lt {j i : Nat} (h : HB r f j i) : j < i := by
  induction h with
  | step h _ => exact h
  | trans _ _ h1 h2 => omega
/-- The last step. -/
theorem HB.last {j i : Nat} (h : HB r f j i) : ∃ k, k < i ∧ (r k = r i ∨ k + 1 = f i) ∧ (j = k ∨ HB r f j k) := by
  induction h with
  | step h h' => exact ⟨_, h, h', .inl rfl⟩
  | trans h1 _ _ h2 =>
    obtain ⟨k', hk, hd, hj⟩ := h2
    refine ⟨k', hk, hd, .inr ?_⟩
    rcases hj with rfl | hj
    · exact h1
    · exact .trans h1 hj
/-- The events of role p among the first n. -/
def tot (r : Nat → Nat) (p : Nat) : Nat → Nat
  | 0 => 0
  | n + 1 => tot r p n + if r n = p then 1 else 0
theorem tot_le (p : Nat) : ∀ n, tot r p n ≤ n
  | 0 => Nat.le_refl _
  | n + 1 => by have := tot_le p n; simp only [tot]; split <;> omega
theorem tot_mono (p : Nat) {a b : Nat} (h : a ≤ b) : tot r p a ≤ tot r p b := by
  induction h with
  | refl => exact Nat.le_refl _
  | step _ ih => simp only [tot]; omega
theorem tot_lt {p j k : Nat} (h : j < k) (hk : r k = p) : tot r p (j + 1) < tot r p (k + 1) := by
  have := tot_mono (r := r) p (show j + 1 ≤ k from h)
  simp only [tot] at this ⊢
  simp only [hk, if_true]
  omega
theorem tot_at (p : Nat) : ∀ (n m : Nat), 1 ≤ m → m ≤ tot r p n → ∃ j, j < n ∧ r j = p ∧ tot r p (j + 1) = m
  | 0, m, h1, h2 => by simp [tot] at h2; omega
  | n + 1, m, h1, h2 => by
    rcases Nat.lt_or_ge (tot r p n) m with h | h
    · simp only [tot] at h2
      split at h2
      · rename_i hn
        exact ⟨n, by omega, hn, by simp only [tot, hn, if_true]; omega⟩
      · omega
    · obtain ⟨j, hj, hr, hm⟩ := tot_at p n m h1 h
      exact ⟨j, by omega, hr, hm⟩

/-- c is the clock whose past is S, among the first n events. -/
structure Thr (r : Nat → Nat) (c : List Int) (S : Nat → Prop) (n : Nat) : Prop where
  len : c.length = 3
  pos : ∀ p, p < 3 → 0 ≤ c.getD p 0 ∧ c.getD p 0 ≤ tot r p n
  mem : ∀ j, (tot r (r j) (j + 1) : Int) ≤ c.getD (r j) 0 ↔ S j
variable (h3 : ∀ j, r j < 3)
theorem tot_pos (j : Nat) : 1 ≤ tot r (r j) (j + 1) := by simp [tot]
theorem Thr.zero : Thr r [0, 0, 0] (fun _ => False) 0 := by
  refine ⟨rfl, fun p hp => ?_, fun j => ?_⟩
  · have : p = 0 ∨ p = 1 ∨ p = 2 := by omega
    rcases this with rfl | rfl | rfl <;> simp [tot]
  · have h1 := tot_pos (r := r) j
    refine ⟨fun h => ?_, False.elim⟩
    have : ([0, 0, 0] : List Int).getD (r j) 0 = 0 := by
      generalize r j = p
      match p with
      | 0 => rfl
      | 1 => rfl
      | 2 => rfl
      | _ + 3 => rfl
    rw [this] at h
    omega
theorem Thr.mono {c : List Int} {S : Nat → Prop} {n m : Nat} (h : Thr r c S n) (hn : n ≤ m) : Thr r c S m :=
  ⟨h.len, fun p hp => ⟨(h.pos p hp).1, by have := (h.pos p hp).2; have := tot_mono (r := r) p hn; omega⟩, h.mem⟩
theorem Thr.congr {c : List Int} {S S' : Nat → Prop} {n : Nat} (h : Thr r c S n) (hs : ∀ j, S j ↔ S' j) : Thr r c S' n := ⟨h.len, h.pos, fun j => (h.mem j).trans (hs j)⟩
theorem getD_zip {a b : List Int} (ha : a.length = 3) (hb : b.length = 3) {p : Nat} (hp : p < 3) : (List.zipWith max a b).getD p 0 = max (a.getD p 0) (b.getD p 0) := by
  simp only [List.getD_eq_getElem?_getD]
  rw [List.getElem?_eq_getElem (by simp; omega), List.getElem?_eq_getElem (by omega), List.getElem?_eq_getElem (by omega)]
  simp
include h3 in
theorem Thr.join {a b : List Int} {S T : Nat → Prop} {n m : Nat} (h : Thr r a S n) (k : Thr r b T m) (hm : m ≤ n) : Thr r (List.zipWith max a b) (fun j => S j ∨ T j) n := by
  refine ⟨by simp [h.len, k.len], fun p hp => ?_, fun j => ?_⟩
  · rw [getD_zip h.len k.len hp]
    have h1 := h.pos p hp
    have k1 := (k.mono hm).pos p hp
    omega
  · rw [getD_zip h.len k.len (h3 j), ← h.mem j, ← k.mem j]
    omega
include h3 in
/-- The next event of role r i. -/
theorem Thr.tick {c : List Int} {S : Nat → Prop} {i : Nat} (h : Thr r c S i) (hs : ∀ j, j < i → r j = r i → S j) (hlt : ∀ j, S j → j < i) : Thr r (c.set (r i) (c.getD (r i) 0 + 1)) (fun j => j = i ∨ S j) (i + 1) := by
  have hi := h3 i
  have hl := h.len
  have e : c.getD (r i) 0 = tot r (r i) i := by
    have h1 := h.pos (r i) hi
    rcases Nat.eq_zero_or_pos (tot r (r i) i) with h0 | h0
    · omega
    · obtain ⟨j, hj, hr, hm⟩ := tot_at (r := r) (r i) i _ h0 (Nat.le_refl _)
      have := (h.mem j).2 (hs j hj hr)
      rw [hr, hm] at this
      omega
  have eg : ∀ p, p < 3 → (c.set (r i) (c.getD (r i) 0 + 1)).getD p 0 = if p = r i then (tot r (r i) i : Int) + 1 else c.getD p 0 := by
    intro p hp
    simp only [List.getD_eq_getElem?_getD, List.getElem?_set]
    by_cases hpi : r i = p
    · subst hpi
      simp only [if_true]
      rw [if_pos (by omega)]
      simp only [List.getD_eq_getElem?_getD] at e
      simp only [Option.getD_some, e]
    · rw [if_neg hpi, if_neg (fun h => hpi h.symm)]
  refine ⟨by simp [hl], fun p hp => ?_, fun j => ?_⟩
  · rw [eg p hp]
    have h1 := h.pos p hp
    simp only [tot]
    split
    · rename_i hp'
      subst hp'
      simp only [if_true]
      omega
    · omega
  · rw [eg _ (h3 j)]
    by_cases hj : r j = r i
    · rw [if_pos hj, hj]
      have e1 : tot r (r i) (i + 1) = tot r (r i) i + 1 := by simp [tot]
      constructor
      · intro h1
        rcases Nat.lt_trichotomy j i with h2 | h2 | h2
        · exact .inr (hs j h2 hj)
        · exact .inl h2
        · have := tot_lt (r := r) (p := r i) h2 hj
          omega
      · rintro (rfl | h1)
        · omega
        · have := tot_lt (r := r) (p := r i) (hlt j h1) rfl
          omega
    · rw [if_neg hj, h.mem j]
      constructor
      · exact .inr
      · rintro (rfl | h1)
        · exact absurd rfl hj
        · exact h1
theorem leB_iff : ∀ (a b : List Int), a.length = b.length → (leB a b = true ↔ ∀ p, p < a.length → a.getD p 0 ≤ b.getD p 0)
  | [], _, _ => by simp [leB]
  | _ :: _, [], h => by simp at h
  | x :: a, y :: b, h => by
    have ih := leB_iff a b (by simpa using h)
    simp only [leB, Bool.and_eq_true, decide_eq_true_iff, ih, List.length_cons]
    constructor
    · rintro ⟨h1, h2⟩ p hp
      cases p with
      | zero => simpa using h1
      | succ p => simpa using h2 p (by omega)
    · intro h1
      refine ⟨by simpa using h1 0 (by omega), fun p hp => ?_⟩
      simpa using h1 (p + 1) (by omega)
include h3 in
theorem thr_before {a b : List Int} {k i : Nat} (hki : k < i) (ha : Thr r a (fun j => j = k ∨ HB r f j k) (k + 1)) (hb : Thr r b (fun j => j = i ∨ HB r f j i) (i + 1)) : (beforeB a b = true ↔ HB r f k i) ∧ beforeB b a = false := by
  have hl : a.length = b.length := by rw [ha.len, hb.len]
  have n1 : ¬ leB b a = true := by
    intro h
    have h1 := (leB_iff b a hl.symm).1 h (r i) (by rw [hb.len]; exact h3 i)
    have h2 := (hb.mem i).2 (.inl rfl)
    rcases (ha.mem i).1 (by omega) with h4 | h4
    · omega
    · have := h4.lt; omega
  have n2 : a ≠ b := fun e => n1 (by rw [e]; exact leB_refl _)
  refine ⟨?_, by simp [beforeB, n1]⟩
  unfold beforeB
  rw [decide_eq_true hl, decide_eq_false n2]
  simp only [Bool.not_false, Bool.true_and]
  rw [leB_iff a b hl]
  constructor
  · intro h
    have h1 := h (r k) (by rw [ha.len]; exact h3 k)
    have h2 := (ha.mem k).2 (.inl rfl)
    rcases (hb.mem k).1 (by omega) with h4 | h4
    · omega
    · exact h4
  · intro h p hp
    rw [ha.len] at hp
    have h1 := ha.pos p hp
    rcases Int.lt_or_le 0 (a.getD p 0) with h0 | h0
    · obtain ⟨j, hj, hr, hm⟩ := tot_at (r := r) p (k + 1) (a.getD p 0).toNat (by omega) (by omega)
      subst hr
      have h2 : j = k ∨ HB r f j k := (ha.mem j).1 (by omega)
      have h4 : j = i ∨ HB r f j i := by
        rcases h2 with rfl | h2
        · exact .inr h
        · exact .inr (.trans h2 h)
      have := (hb.mem j).2 h4
      omega
    · have := (hb.pos p hp).1
      omega
/-- What is before event i: of the last event of its role, and of the message. -/
theorem HB.iff {j i : Nat} : HB r f j i ↔ (∃ k, k < i ∧ r k = r i ∧ (j = k ∨ HB r f j k)) ∨ (∃ k, k < i ∧ k + 1 = f i ∧ (j = k ∨ HB r f j k)) := by
  constructor
  · intro h
    obtain ⟨k, h1, h2 | h2, h4⟩ := h.last
    · exact .inl ⟨k, h1, h2, h4⟩
    · exact .inr ⟨k, h1, h2, h4⟩
  · rintro (⟨k, h1, h2, h4⟩ | ⟨k, h1, h2, h4⟩)
    · have hk : HB r f k i := .step h1 (.inl h2)
      rcases h4 with rfl | h4
      · exact hk
      · exact .trans h4 hk
    · have hk : HB r f k i := .step h1 (.inr h2)
      rcases h4 with rfl | h4
      · exact hk
      · exact .trans h4 hk
/-- The past of the role p ahead of event i. -/
def Past (r f : Nat → Nat) (p i : Nat) (j : Nat) : Prop := ∃ k, k < i ∧ r k = p ∧ (j = k ∨ HB r f j k)
theorem Past.lt {p i j : Nat} (h : Past r f p i j) : j < i := by
  obtain ⟨k, h1, _, rfl | h2⟩ := h
  · exact h1
  · have := h2.lt; omega
theorem thr_okC {c : List Int} {S : Nat → Prop} {n : Nat} (h : Thr r c S n) (hn : n ≤ 14) : okC c = true := by
  have key : ∀ x ∈ c, 0 ≤ x ∧ x ≤ 14 := by
    intro x hx
    obtain ⟨p, hp, rfl⟩ := List.getElem_of_mem hx
    have h1 := h.pos p (by rw [← h.len]; exact hp)
    have h2 := tot_le (r := r) p n
    simp only [List.getD_eq_getElem?_getD, List.getElem?_eq_getElem hp, Option.getD_some] at h1
    omega
  unfold okC
  refine decide_eq_true ⟨by rw [h.len]; decide, by rw [h.len]; decide, fun x hx => (key x hx).1, fun x hx => by have := (key x hx).2; omega⟩
include h3 in
theorem tickF_thr {c : List Int} {S : Nat → Prop} {i : Nat} (h : Thr r c S i) (hi : i ≤ 14) : tickF c (r i : Int) = (0, c.set (r i) (c.getD (r i) 0 + 1)) := by
  have hr := h3 i
  have h1 := (h.pos _ hr).2
  have h2 := tot_le (r := r) (r i) i
  unfold tickF
  rw [thr_okC h hi, if_neg (by simp), if_neg (by rw [h.len]; omega), if_neg (by rw [Int.toNat_natCast]; omega)]
  rw [Int.toNat_natCast]
include h3 in
theorem receiveF_thr {c m : List Int} {S T : Nat → Prop} {i k : Nat} (h : Thr r c S i) (hm : Thr r m T k) (hk : k ≤ i) (hi : i ≤ 14) : receiveF c m (r i : Int) = (0, (List.zipWith max c m).set (r i) ((List.zipWith max c m).getD (r i) 0 + 1)) := by
  unfold receiveF
  rw [joinF_ok ⟨thr_okC h hi, thr_okC hm (by omega), by rw [h.len, hm.len]⟩]
  rw [if_pos rfl]
  exact tickF_thr h3 (h.join h3 hm hk) hi
include h3 in
/-- The clock of event i: no message. -/
theorem thr_alone {c : List Int} {i : Nat} (h : Thr r c (Past r f (r i) i) i) (hf : ¬ (1 ≤ f i ∧ f i ≤ i)) : Thr r (c.set (r i) (c.getD (r i) 0 + 1)) (fun j => j = i ∨ HB r f j i) (i + 1) := by
  refine (h.tick h3 (fun j hj hr => ⟨j, hj, hr, .inl rfl⟩) fun j hj => hj.lt).congr fun j => ?_
  refine or_congr Iff.rfl ?_
  rw [HB.iff]
  constructor
  · exact .inl
  · rintro (h1 | ⟨k, h1, h2, _⟩)
    · exact h1
    · exact absurd ⟨by omega, by omega⟩ hf
include h3 in
theorem thr_told {c m : List Int} {i : Nat} (h : Thr r c (Past r f (r i) i) i) (hf : 1 ≤ f i ∧ f i ≤ i) (hm : Thr r m (fun j => j = f i - 1 ∨ HB r f j (f i - 1)) (f i - 1 + 1)) :
    Thr r ((List.zipWith max c m).set (r i) ((List.zipWith max c m).getD (r i) 0 + 1)) (fun j => j = i ∨ HB r f j i) (i + 1) := by
  refine ((h.join h3 hm (by omega)).tick h3 (fun j hj hr => .inl ⟨j, hj, hr, .inl rfl⟩) fun j hj => ?_).congr fun j => ?_
  · rcases hj with hj | rfl | hj
    · exact hj.lt
    · omega
    · have := hj.lt; omega
  · refine or_congr Iff.rfl ?_
    rw [HB.iff (i := i)]
    refine or_congr Iff.rfl ?_
    constructor
    · intro h1; exact ⟨f i - 1, by omega, by omega, h1⟩
    · rintro ⟨k, h1, h2, h4⟩
      have : k = f i - 1 := by omega
      subst this
      exact h4
/-- The roles' clocks behind event i. -/
theorem thr_past {c : List Int} {p i : Nat} (h : Thr r c (Past r f p i) i) (hp : r i ≠ p) : Thr r c (Past r f p (i + 1)) (i + 1) := by
  refine (h.mono (Nat.le_succ i)).congr fun j => ?_
  constructor
  · rintro ⟨k, h1, h2⟩; exact ⟨k, by omega, h2⟩
  · rintro ⟨k, h1, h2, h4⟩
    refine ⟨k, ?_, h2, h4⟩
    have : k ≠ i := fun e => by subst e; exact hp h2
    omega
theorem thr_now {c : List Int} {i : Nat} (h : Thr r c (fun j => j = i ∨ HB r f j i) (i + 1)) : Thr r c (Past r f (r i) (i + 1)) (i + 1) := by
  refine h.congr fun j => ?_
  constructor
  · intro h1; exact ⟨i, by omega, rfl, h1⟩
  · rintro ⟨k, h1, h2, h4⟩
    rcases Nat.lt_or_ge k i with h5 | h5
    · have hk : HB r f k i := .step h5 (.inl h2)
      rcases h4 with rfl | h4
      · exact .inr hk
      · exact .inr (.trans h4 hk)
    · have : k = i := by omega
      subst this
      exact h4
end

/- The row of event i. -/
open Classical in
noncomputable def rowOf (r f : Nat → Nat) (n i : Nat) : List Bool := (List.range n).map fun j => decide (HB r f j i)
theorem rowOf_len (r f : Nat → Nat) (n i : Nat) : (rowOf r f n i).length = n := by simp [rowOf]
theorem rowOf_get {r f : Nat → Nat} {n i j : Nat} (h : j < (rowOf r f n i).length) : (rowOf r f n i)[j] = true ↔ HB r f j i := by simp [rowOf]
theorem rowOf_eq {r f : Nat → Nat} {n i : Nat} {w : List Bool} (hl : w.length = n) (h : ∀ j (hj : j < w.length), w[j] = true ↔ HB r f j i) : w = rowOf r f n i := by
  apply List.ext_getElem (by rw [hl, rowOf_len])
  intro j h1 h2
  rw [Bool.eq_iff_iff, h j h1, rowOf_get]
/-- The row in work: k events have handed on their past; of event k the first m. -/
structure Work (r f : Nat → Nat) (n i k m : Nat) (w : List Bool) : Prop where
  len : w.length = n
  sound : ∀ j (hj : j < w.length), w[j] = true → HB r f j i
  direct : ∀ j (hj : j < w.length), j < i → (r j = r i ∨ j + 1 = f i) → w[j] = true
  done : ∀ k', k' < k → k' < i → (r k' = r i ∨ k' + 1 = f i) → ∀ j (hj : j < w.length), HB r f j k' → w[j] = true
  part : HB r f k i → ∀ j (hj : j < w.length), j < m → HB r f j k → w[j] = true
section
variable {r f : Nat → Nat} {n i k m : Nat} {w : List Bool}
theorem Work.row (h : Work r f n i i 0 w) : w = rowOf r f n i := rowOf_eq h.len fun j hj => by
  refine ⟨h.sound j hj, fun hb => ?_⟩
  obtain ⟨k, h1, h2, h3⟩ := hb.last
  rcases h3 with rfl | h3
  · exact h.direct _ hj h1 h2
  · exact h.done k h1 h1 h2 j hj h3
/-- Event k is not before event i. -/
theorem Work.pass (h : Work r f n i k 0 w) (hk : k < w.length) (hn : w[k] = false) : Work r f n i (k + 1) 0 w := by
  refine ⟨h.len, h.sound, h.direct, fun k' h1 h2 h3 j hj hb => ?_, fun _ j hj h1 => absurd h1 (by omega)⟩
  rcases Nat.lt_or_ge k' k with h4 | h4
  · exact h.done k' h4 h2 h3 j hj hb
  · have : k' = k := by omega
    subst this
    have := h.direct k' hk h2 h3
    rw [hn] at this
    cases this
/-- All of event k's past has been handed on. -/
theorem Work.next (h : Work r f n i k k w) (hk : HB r f k i) : Work r f n i (k + 1) 0 w := by
  refine ⟨h.len, h.sound, h.direct, fun k' h1 h2 h3 j hj hb => ?_, fun _ j hj h1 => absurd h1 (by omega)⟩
  rcases Nat.lt_or_ge k' k with h4 | h4
  · exact h.done k' h4 h2 h3 j hj hb
  · have : k' = k := by omega
    subst this
    exact h.part hk j hj hb.lt hb
theorem Work.step (h : Work r f n i k m w) (hk : HB r f k i) (hm : m < w.length) {b : Bool} (hb : b = true ↔ (w[m] = true ∨ HB r f m k)) : Work r f n i k (m + 1) (w.set m b) := by
  have up : ∀ j (hj : j < w.length), w[j] = true → ∀ hj' : j < (w.set m b).length, (w.set m b)[j] = true := by
    intro j hj h1 hj'
    rw [List.getElem_set]
    split
    · rename_i e; subst e; exact hb.2 (.inl h1)
    · exact h1
  refine ⟨by simp [h.len], fun j hj h1 => ?_, fun j hj h1 h2 => ?_, fun k' h1 h2 h3 j hj h4 => ?_, fun h1 j hj h2 h3 => ?_⟩
  · rw [List.getElem_set] at h1
    split at h1
    · rename_i e
      subst e
      rcases hb.1 h1 with h2 | h2
      · exact h.sound m hm h2
      · exact .trans h2 hk
    · exact h.sound j _ h1
  · have hj' : j < w.length := by simpa using hj
    exact up j hj' (h.direct j hj' h1 h2) hj
  · have hj' : j < w.length := by simpa using hj
    exact up j hj' (h.done k' h1 h2 h3 j hj' h4) hj
  · have hj' : j < w.length := by simpa using hj
    rcases Nat.lt_or_ge j m with h4 | h4
    · exact up j hj' (h.part h1 j hj' h4 h3) hj
    · have : j = m := by omega
      subst this
      rw [List.getElem_set_self]
      exact hb.2 (.inr h3)
end
/-- The row's first entries: the message, and the events of the role. -/
structure First (r f : Nat → Nat) (n i k : Nat) (w : List Bool) : Prop where
  len : w.length = n
  iff : ∀ j (hj : j < w.length), w[j] = true ↔ (j < i ∧ j + 1 = f i) ∨ (j < k ∧ r j = r i)
section
variable {r f : Nat → Nat} {n i k m : Nat} {w : List Bool}
theorem First.zero (hn : ¬ (1 ≤ f i ∧ f i ≤ i)) : First r f n i 0 (List.replicate n false) := ⟨by simp, fun j hj => by
  simp only [List.getElem_replicate, Bool.false_eq_true, false_iff]
  omega⟩
theorem First.told (hn : 1 ≤ f i ∧ f i ≤ i) : First r f n i 0 ((List.replicate n false).set (f i - 1) true) := ⟨by simp, fun j hj => by
  rw [List.getElem_set]
  split
  · simp only [true_iff]; omega
  · simp only [List.getElem_replicate, Bool.false_eq_true, false_iff]; omega⟩
theorem First.yes (h : First r f n i k w) (hr : r k = r i) : First r f n i (k + 1) (w.set k true) := ⟨by simp [h.len], fun j hj => by
  have hj' : j < w.length := by simpa using hj
  rw [List.getElem_set]
  split
  · rename_i e; subst e; simp only [true_iff]; exact .inr ⟨by omega, hr⟩
  · rw [h.iff j hj']
    constructor
    · rintro (h1 | h1)
      · exact .inl h1
      · exact .inr ⟨by omega, h1.2⟩
    · rintro (h1 | h1)
      · exact .inl h1
      · exact .inr ⟨by omega, h1.2⟩⟩
theorem First.no (h : First r f n i k w) (hr : r k ≠ r i) : First r f n i (k + 1) w := ⟨h.len, fun j hj => by
  rw [h.iff j hj]
  constructor
  · rintro (h1 | h1)
    · exact .inl h1
    · exact .inr ⟨by omega, h1.2⟩
  · rintro (h1 | h1)
    · exact .inl h1
    · refine .inr ⟨?_, h1.2⟩
      have : j ≠ k := fun e => by subst e; exact hr h1.2
      omega⟩
theorem First.work (h : First r f n i i w) : Work r f n i 0 0 w := by
  refine ⟨h.len, fun j hj h1 => ?_, fun j hj h1 h2 => ?_, fun k' h1 => absurd h1 (by omega), fun _ j hj h1 => absurd h1 (by omega)⟩
  · rcases (h.iff j hj).1 h1 with h2 | h2
    · exact .step h2.1 (.inr h2.2)
    · exact .step h2.1 (.inl h2.2)
  · rw [h.iff j hj]
    rcases h2 with h2 | h2
    · exact .inr ⟨h1, h2⟩
    · exact .inl ⟨h1, h2⟩
end
end Go.Proofs.Ytomejdempmbbmaa
