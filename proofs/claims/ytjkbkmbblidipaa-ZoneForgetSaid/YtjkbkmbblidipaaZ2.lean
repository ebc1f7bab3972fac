/- Zones: what the functions compute, and what it means (no program in sight). -/
import Derived.Test.YtjkbkmbblidipaaZ1
namespace Go.Proofs.Ytjkbkmbblidipaa

structure Zn where
  N : Int
  b : List Int
def zn0 : Zn := ⟨0, []⟩
def ful (i j : Nat) : Int := if i = j then 0 else if i = 0 ∨ j = 0 then 10000 else 20000
set_option maxRecDepth 100000 in
theorem ful_le (i j : Nat) : ful i j ≤ 20000 := by unfold ful; split <;> (try split) <;> omega
set_option maxRecDepth 100000 in
theorem ful_ge (i j : Nat) : 0 ≤ ful i j := by unfold ful; split <;> (try split) <;> omega
set_option maxRecDepth 100000 in
theorem ful_dg (i : Nat) : ful i i = 0 := by simp [ful]
def dm (z : Zn) : Nat := (z.N + 1).toNat
def ValZ (z : Zn) : Prop := 0 ≤ z.N ∧ z.N ≤ 24 ∧ (z.b.length : Int) = (z.N + 1) * (z.N + 1) ∧ ∀ x ∈ z.b, -20001 ≤ x ∧ x ≤ 20000
instance (z : Zn) : Decidable (ValZ z) := by unfold ValZ; infer_instance
set_option maxRecDepth 100000 in
theorem ValZ.dim {z : Zn} (h : ValZ z) : z.N = (dm z : Int) - 1 ∧ 1 ≤ dm z ∧ dm z ≤ 25 ∧ z.b.length = dm z * dm z := by
  obtain ⟨h1, h2, h3, _⟩ := h
  have e : z.N + 1 = (dm z : Int) := by unfold dm; omega
  rw [e] at h3
  refine ⟨by omega, by omega, by omega, ?_⟩
  exact_mod_cast h3
set_option maxRecDepth 100000 in
theorem ValZ.bd {z : Zn} (h : ValZ z) {a b : Nat} (ha : a < dm z) (hb : b < dm z) : -20001 ≤ mt (dm z) z.b a b ∧ mt (dm z) z.b a b ≤ 20000 := by
  have hl := h.dim.2.2.2
  have hlt := idx_lt ha hb
  unfold mt
  rw [List.getD_eq_getElem?_getD, List.getElem?_eq_getElem (by omega), Option.getD_some]
  exact h.2.2.2 _ (List.getElem_mem _)
set_option maxRecDepth 100000 in
theorem valZ_of {n : Nat} {L : List Int} (h1 : 1 ≤ n) (h2 : n ≤ 25) (hl : L.length = n * n) (h : ∀ a b, a < n → b < n → -20001 ≤ mt n L a b ∧ mt n L a b ≤ 20000) : ValZ ⟨(n : Int) - 1, L⟩ := by
  refine ⟨by show (0 : Int) ≤ (n : Int) - 1; omega, by show (n : Int) - 1 ≤ 24; omega, ?_, ?_⟩
  · show (L.length : Int) = ((n : Int) - 1 + 1) * ((n : Int) - 1 + 1)
    rw [hl, Int.sub_add_cancel, Int.natCast_mul]
  · intro x hx
    obtain ⟨p, hp, rfl⟩ := List.getElem_of_mem hx
    change p < L.length at hp
    have ha : p / n < n := by rw [Nat.div_lt_iff_lt_mul (by omega)]; omega
    have hb : p % n < n := Nat.mod_lt _ (by omega)
    have := h _ _ ha hb
    unfold mt at this
    rw [Nat.div_add_mod'] at this
    simpa [List.getD_eq_getElem?_getD, hp] using this

/- THE FULL ZONE -/
def fulL (n : Nat) : List Int := sI n (fun i j _ => ful i j) n (List.replicate (n * n) 0)
set_option maxRecDepth 100000 in
theorem fulL_len (n : Nat) : (fulL n).length = n * n := by simp [fulL, sI_len]
set_option maxRecDepth 100000 in
theorem fulL_mt {n a b : Nat} (ha : a < n) (hb : b < n) : mt n (fulL n) a b = ful a b := sI_each (L := List.replicate (n * n) 0) (by simp) (fun i j _ => ful i j) (fun _ _ _ => rfl) ha hb
def newZ (N : Int) : Zn := ⟨N, fulL (N + 1).toNat⟩
def nothZ (N : Int) : Zn := ⟨N, (fulL (N + 1).toNat).set 0 (-20001)⟩

/- CLOSING -/
def m0L (n : Nat) (L : List Int) : List Int := sI n (fun i j K => min (mt n K i j) (ful i j)) n L
def M0 (z : Zn) : Mat := fun a b => min (mt (dm z) z.b a b) (ful a b)
set_option maxRecDepth 100000 in
theorem m0L_len (n : Nat) (L : List Int) : (m0L n L).length = L.length := sI_len _ _
set_option maxRecDepth 100000 in
theorem m0L_mt {n : Nat} {L : List Int} (hl : L.length = n * n) {a b : Nat} (ha : a < n) (hb : b < n) : mt n (m0L n L) a b = min (mt n L a b) (ful a b) := sI_each hl (fun i j x => min x (ful i j)) (fun _ _ _ => rfl) ha hb
instance (n : Nat) (M : Mat) : Decidable (Dg n M) := by unfold Dg; infer_instance
def closeL (n : Nat) (L : List Int) : List Int := fw id n n (m0L n L)
def closeZ (z : Zn) : Zn × Bool := if ValZ z ∧ Dg (dm z) (mt (dm z) (closeL (dm z) z.b)) then (⟨z.N, closeL (dm z) z.b⟩, true) else (zn0, false)
section
variable {z : Zn}
set_option maxRecDepth 100000 in
theorem m0_hyp (hv : ValZ z) : (m0L (dm z) z.b).length = dm z * dm z ∧ (∀ a b, a < dm z → b < dm z → mt (dm z) (m0L (dm z) z.b) a b ≤ 20000) ∧ ∀ a, a < dm z → mt (dm z) (m0L (dm z) z.b) a a ≤ 0 := by
  have hl := hv.dim.2.2.2
  refine ⟨by rw [m0L_len, hl], fun a b ha hb => ?_, fun a ha => ?_⟩
  · rw [m0L_mt hl ha hb]; have := ful_le a b; omega
  · rw [m0L_mt hl ha ha, ful_dg]; omega
set_option maxRecDepth 100000 in
/-- What the document's way of closing computes is the same. -/
theorem ref_close (hv : ValZ z) : (Dg (dm z) (mt (dm z) (closeL (dm z) z.b)) ↔ Dg (dm z) (mt (dm z) (fw (max (-20001)) (dm z) (dm z) (m0L (dm z) z.b)))) ∧
    (Dg (dm z) (mt (dm z) (closeL (dm z) z.b)) → closeL (dm z) z.b = fw (max (-20001)) (dm z) (dm z) (m0L (dm z) z.b)) := by
  obtain ⟨h1, h2, h3⟩ := m0_hyp hv
  exact fw_same cut_id cut_max h1 h2 h3
/-- How closing ends. -/
inductive CloseR (z : Zn) : Zn × Bool → Prop
  | bad : ¬ ValZ z → CloseR z (zn0, false)
  | none : ValZ z → (∀ D, Clo (dm z) D → Dg (dm z) D → ¬ Leq (dm z) D (M0 z)) → CloseR z (zn0, false)
  | some (L : List Int) : ValZ z → Best (dm z) (M0 z) L → CloseR z (⟨z.N, L⟩, true)
set_option maxRecDepth 100000 in
theorem closeZ_r (z : Zn) : CloseR z (closeZ z) := by
  unfold closeZ
  by_cases hv : ValZ z
  · obtain ⟨h1, h2, h3⟩ := m0_hyp hv
    have hl := hv.dim.2.2.2
    have e : ∀ D, Leq (dm z) D (mt (dm z) (m0L (dm z) z.b)) ↔ Leq (dm z) D (M0 z) := fun D =>
      ⟨fun h a b ha hb => by have := h a b ha hb; rwa [m0L_mt hl ha hb] at this, fun h a b ha hb => by rw [m0L_mt hl ha hb]; exact h a b ha hb⟩
    by_cases hd : Dg (dm z) (mt (dm z) (closeL (dm z) z.b))
    · rw [if_pos ⟨hv, hd⟩]
      have hB := fw_best cut_id h1 h2 h3 hd
      exact .some _ hv ⟨hB.len, (e _).1 hB.le, hB.clo, hB.dg, fun D hD hle => hB.max D hD ((e D).2 hle)⟩
    · rw [if_neg (fun h => hd h.2)]
      exact .none hv fun D hD h0 hle => hd (fw_dg cut_id h1 hD h0 ((e D).2 hle))
  · rw [if_neg (fun h => hv h.1)]
    exact .bad hv
set_option maxRecDepth 100000 in
theorem closeZ_bad (hv : ¬ ValZ z) : closeZ z = (zn0, false) := if_neg fun h => hv h.1
set_option maxRecDepth 100000 in
/-- A zone with closed bounds below its own is not empty. -/
theorem closeZ_ok (hv : ValZ z) {D : Mat} (h1 : Clo (dm z) D) (h2 : Dg (dm z) D) (h3 : Leq (dm z) D (M0 z)) : ∃ L, closeZ z = (⟨z.N, L⟩, true) ∧ Best (dm z) (M0 z) L := by
  have h := closeZ_r z
  generalize closeZ z = r at h
  cases h with
  | bad h => exact absurd hv h
  | none _ h => exact absurd h3 (h D h1 h2)
  | some L _ hB => exact ⟨L, rfl, hB⟩
end
set_option maxRecDepth 100000 in
theorem Best.full {z : Zn} {L : List Int} (_ : ValZ z) (hB : Best (dm z) (M0 z) L) {a b : Nat} (ha : a < dm z) (hb : b < dm z) : mt (dm z) L a b ≤ ful a b := by
  have := hB.le a b ha hb
  unfold M0 at this
  omega
set_option maxRecDepth 100000 in
theorem Best.below {z : Zn} {L : List Int} (_ : ValZ z) (hB : Best (dm z) (M0 z) L) {a b : Nat} (ha : a < dm z) (hb : b < dm z) : mt (dm z) L a b ≤ mt (dm z) z.b a b := by
  have := hB.le a b ha hb
  unfold M0 at this
  omega
section
variable {z : Zn} {L : List Int} (hv : ValZ z) (hB : Best (dm z) (M0 z) L)
include hv hB
set_option maxRecDepth 100000 in
theorem Best.zero {a : Nat} (ha : a < dm z) : mt (dm z) L a a = 0 := by
  have h1 := hB.dg a ha
  have h2 := hB.full hv ha ha
  rw [ful_dg] at h2
  omega
set_option maxRecDepth 100000 in
theorem Best.low {a b : Nat} (ha : a < dm z) (hb : b < dm z) : -ful b a ≤ mt (dm z) L a b := by
  have h1 := hB.clo a a b ha ha hb
  have h2 := hB.full hv hb ha
  have h3 := hB.zero hv ha
  omega
set_option maxRecDepth 100000 in
theorem Best.val : ValZ ⟨z.N, L⟩ := by
  have hd := hv.dim
  have := valZ_of (L := L) hd.2.1 hd.2.2.1 hB.len (fun a b ha hb => by
    have h1 := hB.full hv ha hb
    have h2 := hB.low hv ha hb
    have h3 := ful_le a b
    have h4 := ful_le b a
    omega)
  rwa [← hd.1] at this
set_option maxRecDepth 100000 in
/-- Closing again changes nothing. -/
theorem Best.again : closeZ ⟨z.N, L⟩ = (⟨z.N, L⟩, true) := by
  have hle : Leq (dm z) (mt (dm z) L) (M0 ⟨z.N, L⟩) := fun a b ha hb => by
    have h1 := hB.full hv ha hb
    show _ ≤ min (mt (dm z) L a b) (ful a b)
    omega
  obtain ⟨L', e, hB'⟩ := closeZ_ok (hB.val hv) hB.clo hB.dg hle
  rw [e]
  have : Best (dm z) (M0 ⟨z.N, L⟩) L := ⟨hB.len, hle, hB.clo, hB.dg, fun D _ h a b ha hb => Int.le_trans (h a b ha hb) (Int.min_le_left _ _)⟩
  rw [this.unique hB']
end

/- ASSIGNMENTS -/
def num (vs : List Int) (i : Nat) : Int := if i = 0 then 0 else vs.getD (i - 1) 0
def dif (x : Nat → Int) : Mat := fun a b => x a - x b
set_option maxRecDepth 100000 in
theorem dif_clo (n : Nat) (x : Nat → Int) : Clo n (dif x) := fun a b k _ _ _ => by unfold dif; omega
set_option maxRecDepth 100000 in
theorem dif_dg (n : Nat) (x : Nat → Int) : Dg n (dif x) := fun a _ => by unfold dif; omega
def HoldsP (z : Zn) (vs : List Int) : Prop := ValZ z ∧ (vs.length : Int) = z.N ∧ (∀ v ∈ vs, -10000 ≤ v ∧ v ≤ 10000) ∧ ∀ a, a < dm z → ∀ b, b < dm z → num vs a - num vs b ≤ mt (dm z) z.b a b
instance (z : Zn) (vs : List Int) : Decidable (HoldsP z vs) := by unfold HoldsP; infer_instance
set_option maxRecDepth 100000 in
theorem num_in {vs : List Int} (h : ∀ v ∈ vs, -10000 ≤ v ∧ v ≤ 10000) (i : Nat) : -10000 ≤ num vs i ∧ num vs i ≤ 10000 := by
  unfold num
  split
  · omega
  · rw [List.getD_eq_getElem?_getD]
    rcases Nat.lt_or_ge (i - 1) vs.length with h1 | h1
    · rw [List.getElem?_eq_getElem h1]; exact h _ (List.getElem_mem h1)
    · rw [List.getElem?_eq_none h1]; simp
set_option maxRecDepth 100000 in
theorem num_dif {vs : List Int} (h : ∀ v ∈ vs, -10000 ≤ v ∧ v ≤ 10000) (i j : Nat) : dif (num vs) i j ≤ ful i j := by
  have h1 := num_in h i
  have h2 := num_in h j
  unfold dif ful
  split
  · rename_i e; subst e; omega
  · split
    · rename_i e
      rcases e with e | e <;> subst e <;> simp only [num, if_true] at * <;> omega
    · omega
set_option maxRecDepth 100000 in
theorem num_succ (vs : List Int) {i : Nat} (h : i < vs.length) : num vs (i + 1) = vs[i] := by simp [num, h]
set_option maxRecDepth 100000 in
theorem holds_iff {z : Zn} {vs : List Int} (hv : ValZ z) (hl : (vs.length : Int) = z.N) : HoldsP z vs ↔ Leq (dm z) (dif (num vs)) (M0 z) := by
  have hd := hv.dim
  constructor
  · rintro ⟨_, _, h3, h4⟩ a b ha hb
    have h1 := num_dif h3 a b
    have h2 := h4 a ha b hb
    unfold M0 dif at *
    omega
  · intro h
    refine ⟨hv, hl, fun v hvs => ?_, fun a ha b hb => ?_⟩
    · obtain ⟨i, hi, rfl⟩ := List.getElem_of_mem hvs
      have h1 := h (i + 1) 0 (by omega) (by omega)
      have h2 := h 0 (i + 1) (by omega) (by omega)
      unfold M0 dif at h1 h2
      rw [num_succ vs hi] at h1 h2
      simp [num, ful] at h1 h2
      omega
    · have h1 := h a b ha hb
      unfold M0 dif at h1
      omega
set_option maxRecDepth 100000 in
/-- The assignments of a zone are those of its least bounds. -/
theorem Best.holds {z : Zn} {L : List Int} (hv : ValZ z) (hB : Best (dm z) (M0 z) L) (vs : List Int) : HoldsP ⟨z.N, L⟩ vs ↔ HoldsP z vs := by
  by_cases hl : (vs.length : Int) = z.N
  · rw [holds_iff hv hl, holds_iff (z := ⟨z.N, L⟩) (hB.val hv) hl]
    constructor
    · intro h a b ha hb
      have h1 := h a b ha hb
      have h2 := hB.le a b ha hb
      have h3 : M0 ⟨z.N, L⟩ a b ≤ mt (dm z) L a b := Int.min_le_left _ _
      omega
    · intro h a b ha hb
      have h1 := hB.max _ (dif_clo _ _) h a b ha hb
      have h2 := h a b ha hb
      show _ ≤ min (mt (dm z) L a b) (ful a b)
      unfold M0 at h2
      omega
  · exact ⟨fun h => absurd h.2.1 hl, fun h => absurd h.2.1 hl⟩
set_option maxRecDepth 100000 in
theorem HoldsP.ok {z : Zn} {vs : List Int} (h : HoldsP z vs) : ∃ L, closeZ z = (⟨z.N, L⟩, true) ∧ Best (dm z) (M0 z) L := closeZ_ok h.1 (dif_clo _ _) (dif_dg _ _) ((holds_iff h.1 h.2.1).1 h)
/-- The least assignment. -/
def modL (n : Nat) (L : List Int) : List Int := (List.range (n - 1)).map fun x => -mt n L 0 (x + 1)
set_option maxRecDepth 100000 in
theorem modL_len (n : Nat) (L : List Int) : (modL n L).length = n - 1 := by simp [modL]
set_option maxRecDepth 100000 in
theorem modL_num {z : Zn} {L : List Int} (hv : ValZ z) (hB : Best (dm z) (M0 z) L) {a : Nat} (ha : a < dm z) : num (modL (dm z) L) a = -mt (dm z) L 0 a := by
  cases a with
  | zero => rw [hB.zero hv ha]; simp [num]
  | succ a => rw [num_succ _ (by rw [modL_len]; omega)]; simp [modL]
set_option maxRecDepth 100000 in
theorem modL_holds {z : Zn} {L : List Int} (hv : ValZ z) (hB : Best (dm z) (M0 z) L) : HoldsP z (modL (dm z) L) := by
  have hd := hv.dim
  rw [holds_iff hv (by rw [modL_len]; omega)]
  intro a b ha hb
  refine Int.le_trans ?_ (hB.le a b ha hb)
  unfold dif
  rw [modL_num hv hB ha, modL_num hv hB hb]
  have := hB.clo 0 b a (by omega) hb ha
  omega
set_option maxRecDepth 100000 in
/-- It is below all others. -/
theorem modL_least {z : Zn} {L vs : List Int} (hB : Best (dm z) (M0 z) L) (h : HoldsP z vs) {a : Nat} (ha : a < dm z) : -mt (dm z) L 0 a ≤ num vs a := by
  have h1 := hB.max _ (dif_clo _ _) ((holds_iff h.1 h.2.1).1 h) 0 a (by omega) ha
  unfold dif at h1
  have : num vs 0 = 0 := rfl
  omega

/- FURTHER BOUNDS -/
def addL (L : List Int) (k : Nat) (C : Int) : List Int := L.set k (min (L.getD k 0) (max C (-20001)))
def knownB (z : Zn) (x : Int) : Prop := -1 ≤ x ∧ x < z.N
instance (z : Zn) (x : Int) : Decidable (knownB z x) := by unfold knownB; infer_instance
def addZ (z : Zn) (X Y C : Int) : Zn × Int := if ¬ ValZ z then (zn0, 1) else if ¬ (knownB z X ∧ knownB z Y) then (zn0, 2) else (⟨z.N, addL z.b ((X + 1) * (z.N + 1) + Y + 1).toNat C⟩, 0)
section
variable {z : Zn} {X Y C : Int}
set_option maxRecDepth 100000 in
theorem addZ_ok (hv : ValZ z) (hX : knownB z X) (hY : knownB z Y) : addZ z X Y C = (⟨z.N, addL z.b ((X + 1) * (z.N + 1) + Y + 1).toNat C⟩, 0) := by
  unfold addZ
  rw [if_neg (by simpa using hv), if_neg (by simpa using ⟨hX, hY⟩)]
set_option maxRecDepth 100000 in
theorem addZ_idx (hv : ValZ z) {i j : Nat} (hX : X + 1 = (i : Int)) (hY : Y + 1 = (j : Int)) : ((X + 1) * (z.N + 1) + Y + 1).toNat = i * dm z + j := by
  have e : z.N + 1 = (dm z : Int) := by have := hv.dim.1; omega
  rw [e, hX, Int.add_assoc, hY, ← Int.natCast_mul, ← Int.natCast_add, Int.toNat_natCast]
set_option maxRecDepth 100000 in
theorem addZ_mt (hv : ValZ z) {i j : Nat} (hi : i < dm z) (hj : j < dm z) {a b : Nat} (hb : b < dm z) : mt (dm z) (addL z.b (i * dm z + j) C) a b = if a = i ∧ b = j then min (mt (dm z) z.b a b) (max C (-20001)) else mt (dm z) z.b a b := by
  unfold addL
  rw [mt_set hv.dim.2.2.2 hi hj hb]
  by_cases e : a = i ∧ b = j
  · obtain ⟨rfl, rfl⟩ := e; rfl
  · rw [if_neg e, if_neg e]
set_option maxRecDepth 100000 in
theorem addZ_val (hv : ValZ z) {i j : Nat} (hi : i < dm z) (hj : j < dm z) : ValZ ⟨z.N, addL z.b (i * dm z + j) C⟩ := by
  have hd := hv.dim
  have := valZ_of (L := addL z.b (i * dm z + j) C) hd.2.1 hd.2.2.1 (by unfold addL; rw [List.length_set]; exact hd.2.2.2) (fun a b ha hb => by
    rw [addZ_mt hv hi hj hb]
    have := hv.bd ha hb
    split <;> omega)
  rwa [← hd.1] at this
set_option maxRecDepth 100000 in
/-- The assignments of a zone with a further bound. -/
theorem addZ_holds (hv : ValZ z) {i j : Nat} (hi : i < dm z) (hj : j < dm z) (vs : List Int) : HoldsP ⟨z.N, addL z.b (i * dm z + j) C⟩ vs ↔ HoldsP z vs ∧ num vs i - num vs j ≤ C ∨ HoldsP z vs ∧ num vs i - num vs j ≤ -20001 := by
  have key : HoldsP ⟨z.N, addL z.b (i * dm z + j) C⟩ vs ↔ HoldsP z vs ∧ num vs i - num vs j ≤ max C (-20001) := by
    constructor
    · rintro ⟨_, h2, h3, h4⟩
      refine ⟨⟨hv, h2, h3, fun a ha b hb => ?_⟩, ?_⟩
      · have := h4 a ha b hb
        change _ ≤ mt (dm z) (addL z.b (i * dm z + j) C) a b at this
        rw [addZ_mt hv hi hj hb] at this
        split at this <;> omega
      · have := h4 i hi j hj
        change _ ≤ mt (dm z) (addL z.b (i * dm z + j) C) i j at this
        rw [addZ_mt hv hi hj hj, if_pos ⟨rfl, rfl⟩] at this
        omega
    · rintro ⟨⟨_, h2, h3, h4⟩, h5⟩
      refine ⟨addZ_val hv hi hj, h2, h3, fun a ha b hb => ?_⟩
      change _ ≤ mt (dm z) (addL z.b (i * dm z + j) C) a b
      have := h4 a ha b hb
      rw [addZ_mt hv hi hj hb]
      split
      · rename_i e; obtain ⟨rfl, rfl⟩ := e; omega
      · exact this
  rw [key]
  constructor
  · rintro ⟨h1, h2⟩
    rcases Int.lt_or_le C (-20001) with h | h
    · exact .inr ⟨h1, by omega⟩
    · exact .inl ⟨h1, by omega⟩
  · rintro (⟨h1, h2⟩ | ⟨h1, h2⟩) <;> exact ⟨h1, by omega⟩
end
end Go.Proofs.Ytjkbkmbblidipaa
