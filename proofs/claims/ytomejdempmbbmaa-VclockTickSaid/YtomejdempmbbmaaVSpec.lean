/- The plain law of layer 7: what the functions on clocks compute, over lists of integers. Nothing of the program. -/
import Derived.Laws.Wrap64
namespace Go.Proofs.Ytomejdempmbbmaa

def leAll : List Int → List Int → Bool
  | x :: l, y :: m => decide (x ≤ y) && leAll l m
  | _, _ => true
def okEntry (x : Int) : Bool := decide (0 ≤ x) && decide (x ≤ 1099511627776)
def validL (l : List Int) : Bool := decide (1 ≤ l.length) && (decide (l.length ≤ 6) && l.all okEntry)
def leL (a b : List Int) : Bool := decide (a.length = b.length) && leAll a b
def beforeL (a b : List Int) : Bool := leL a b && !leL b a
def concL (a b : List Int) : Bool := decide (a.length = b.length) && (!leL a b && !leL b a)
def eqL (a b : List Int) : Bool := decide (a = b)
def minF (x : Int) (l : List Int) : Int := l.foldl min x
def maxF (x : Int) (l : List Int) : Int := l.foldl max x

theorem minF_le (l : List Int) : ∀ x, (0 ≤ minF x l ↔ 0 ≤ x ∧ ∀ y ∈ l, 0 ≤ y) := by
  induction l with
  | nil => intro x; simp [minF]
  | cons y l ih =>
    intro x
    have := ih (min x y)
    simp only [minF, List.foldl_cons, List.mem_cons, forall_eq_or_imp] at *
    rw [this]
    constructor
    · rintro ⟨h, k⟩; exact ⟨by omega, by omega, k⟩
    · rintro ⟨h, k, r⟩; exact ⟨by omega, r⟩
theorem maxF_le (l : List Int) (M : Int) : ∀ x, (maxF x l ≤ M ↔ x ≤ M ∧ ∀ y ∈ l, y ≤ M) := by
  induction l with
  | nil => intro x; simp [maxF]
  | cons y l ih =>
    intro x
    have := ih (max x y)
    simp only [maxF, List.foldl_cons, List.mem_cons, forall_eq_or_imp] at *
    rw [this]
    constructor
    · rintro ⟨h, k⟩; exact ⟨by omega, by omega, k⟩
    · rintro ⟨h, k, r⟩; exact ⟨by omega, r⟩

theorem okEntry_iff (x : Int) : okEntry x = true ↔ 0 ≤ x ∧ x ≤ 1099511627776 := by simp [okEntry]
theorem all_ok_cons (x : Int) (l : List Int) : (decide (0 ≤ minF x l) && decide (maxF x l ≤ 1099511627776)) = (x :: l).all okEntry := by
  rw [Bool.eq_iff_iff]
  simp only [Bool.and_eq_true, decide_eq_true_eq, minF_le, maxF_le, List.all_eq_true, List.mem_cons, forall_eq_or_imp, okEntry_iff]
  constructor
  · rintro ⟨⟨a, b⟩, c, d⟩; exact ⟨⟨a, c⟩, fun y hy => ⟨b y hy, d y hy⟩⟩
  · rintro ⟨⟨a, c⟩, h⟩; exact ⟨⟨a, fun y hy => (h y hy).1⟩, c, fun y hy => (h y hy).2⟩
theorem validL_short (l : List Int) (h : l.length ≤ 6) (h1 : 1 ≤ l.length) : validL l = l.all okEntry := by simp [validL, h, h1]
theorem validL_len {l : List Int} (h : validL l = true) : 1 ≤ l.length ∧ l.length ≤ 6 := by
  simp only [validL, Bool.and_eq_true, decide_eq_true_eq] at h; omega
theorem validL_at {l : List Int} (h : validL l = true) {k : Nat} {x : Int} (hx : l[k]? = some x) : 0 ≤ x ∧ x ≤ 1099511627776 := by
  simp only [validL, Bool.and_eq_true, decide_eq_true_eq, List.all_eq_true, okEntry_iff] at h
  exact h.2.2 x (List.mem_of_getElem? hx)

theorem leAll_antisymm : ∀ (a b : List Int), a.length = b.length → leAll a b = true → leAll b a = true → a = b
  | [], [], _, _, _ => rfl
  | x :: a, y :: b, h, h1, h2 => by
    simp only [leAll, Bool.and_eq_true, decide_eq_true_eq] at h1 h2
    rw [leAll_antisymm a b (by simpa using h) h1.2 h2.2, show x = y by omega]
  | [], _ :: _, h, _, _ => by simp at h
  | _ :: _, [], h, _, _ => by simp at h
theorem leAll_refl : ∀ a : List Int, leAll a a = true
  | [] => rfl
  | x :: a => by simp [leAll, leAll_refl a]
theorem leAll_trans : ∀ (a b c : List Int), a.length = b.length → b.length = c.length → leAll a b = true → leAll b c = true → leAll a c = true
  | [], _, _, _, _, _, _ => by simp [leAll]
  | x :: a, y :: b, z :: c, h, k, h1, h2 => by
    simp only [leAll, Bool.and_eq_true, decide_eq_true_eq] at h1 h2 ⊢
    exact ⟨by omega, leAll_trans a b c (by simpa using h) (by simpa using k) h1.2 h2.2⟩
  | _ :: _, [], _, h, _, _, _ => by simp at h
  | _ :: _, _ :: _, [], _, k, _, _ => by simp at k
theorem leL_eq (a b : List Int) : (leL a b && leL b a) = decide (a = b) := by
  rw [Bool.eq_iff_iff]
  simp only [leL, Bool.and_eq_true, decide_eq_true_eq]
  constructor
  · rintro ⟨⟨h, h1⟩, _, h2⟩; exact leAll_antisymm a b h h1 h2
  · rintro rfl; exact ⟨⟨rfl, leAll_refl _⟩, rfl, leAll_refl _⟩
theorem before_eq (a b : List Int) : (decide (a.length = b.length) && (!decide (a = b) && leAll a b)) = beforeL a b := by
  unfold beforeL
  rw [← leL_eq]
  unfold leL
  by_cases h : a.length = b.length
  · rw [decide_eq_true h, decide_eq_true h.symm]
    cases leAll a b <;> cases leAll b a <;> rfl
  · rw [decide_eq_false h]; rfl

/- What Zero, Tick, Join and Receive return: a clock (the empty list where there is none) and an error's number. -/
def zeroS (n : Int) : List Int × Int := if 1 ≤ n ∧ n ≤ 6 then (List.replicate n.toNat 0, 0) else ([], 2)
def tickS (l : List Int) (r : Int) : List Int × Int :=
  if validL l = true then
    if 0 ≤ r then
      match l[r.toNat]? with
      | none => ([], 12)
      | some x => if x = 1099511627776 then ([], 6) else (l.set r.toNat (x + 1), 0)
    else ([], 12)
  else ([], 1)
def maxAll (a b : List Int) : List Int := a.zipWith max b
theorem maxAll_length {a b : List Int} (h : a.length = b.length) : (maxAll a b).length = a.length := by simp [maxAll, h]
theorem maxAll_at {a b : List Int} {k : Nat} {x y : Int} (h1 : a[k]? = some x) (h2 : b[k]? = some y) : (maxAll a b)[k]? = some (max x y) := by simp [maxAll, List.getElem?_zipWith, h1, h2]
/- A list that is filled from the front: k places done, the others 0. -/
def filled (l : List Int) (k : Nat) : List Int := l.take k ++ List.replicate (l.length - k) 0
theorem filled_length (l : List Int) {k : Nat} (hk : k ≤ l.length) : (filled l k).length = l.length := by simp [filled]; omega
theorem filled_zero (l : List Int) : filled l 0 = List.replicate l.length 0 := by simp [filled]
theorem filled_all (l : List Int) {k : Nat} (hk : l.length ≤ k) : filled l k = l := by simp [filled, List.take_of_length_le hk, Nat.sub_eq_zero_of_le hk]
theorem filled_at (l : List Int) {k : Nat} (hk : k < l.length) : (filled l k)[k]? = some 0 := by
  rw [filled, List.getElem?_append_right (by simp; omega), List.getElem?_replicate]
  simp; omega
theorem filled_step (l : List Int) {k : Nat} {x : Int} (hx : l[k]? = some x) : (filled l k).set k x = filled l (k + 1) := by
  have hk := (List.getElem?_eq_some_iff.1 hx).1
  unfold filled
  rw [List.set_append_right _ _ (by simp; omega), List.take_add_one, hx]
  have : l.length - k = (l.length - (k + 1)) + 1 := by omega
  rw [this, List.replicate_succ]
  simp [Nat.min_eq_left (Nat.le_of_lt hk)]
def joinS (a b : List Int) : List Int × Int :=
  if validL a = true ∧ validL b = true ∧ a.length = b.length then (maxAll a b, 0) else ([], 1)
theorem joinS_length (a b : List Int) : (joinS a b).1.length ≤ a.length := by
  unfold joinS
  split
  · rename_i h; rw [maxAll_length h.2.2]; exact Nat.le_refl _
  · simp
def receiveS (a b : List Int) (r : Int) : List Int × Int :=
  if (joinS a b).2 = 0 then tickS (joinS a b).1 r else ([], (joinS a b).2)

end Go.Proofs.Ytomejdempmbbmaa
