/- Zones: Sub, Join, Widen: what they mean (no program in sight). -/
import Derived.Test.YtjkbkmbblidipaaZ18
namespace Go.Proofs.Ytjkbkmbblidipaa
open Go.RowKit

set_option maxRecDepth 100000 in
theorem zip_mt {n : Nat} {L L' : List Int} (h : L.length = n * n) (h' : L'.length = n * n) {a b : Nat} (ha : a < n) (hb : b < n) : mt n (List.zipWith max L L') a b = max (mt n L a b) (mt n L' a b) := by
  have hlt := idx_lt ha hb
  unfold mt
  rw [getD_of (by rw [List.length_zipWith]; omega), getD_of (by omega), getD_of (by omega)]
  simp
set_option maxRecDepth 100000 in
theorem nothZ_dm (N : Int) : dm (nothZ N) = (N + 1).toNat := rfl
set_option maxRecDepth 100000 in
theorem nothZ_mt {n : Nat} (hn : 1 ≤ n) {a b : Nat} (ha : a < n) (hb : b < n) : mt n ((fulL n).set 0 (-20001)) a b = if a = 0 ∧ b = 0 then -20001 else ful a b := by
  have := mt_set (n := n) (i := 0) (j := 0) (a := a) (b := b) (L := fulL n) (v := -20001) (fulL_len n) (by omega) (by omega) hb
  rw [Nat.zero_mul, Nat.zero_add] at this
  rw [this]
  split
  · rfl
  · exact fulL_mt ha hb
set_option maxRecDepth 100000 in
theorem nothZ_val {N : Int} (h0 : 0 ≤ N) (h1 : N ≤ 24) : ValZ (nothZ N) := by
  have := valZ_of (n := (N + 1).toNat) (L := (fulL (N + 1).toNat).set 0 (-20001)) (by omega) (by omega) (by rw [List.length_set, fulL_len]) (fun a b ha hb => by
    rw [nothZ_mt (by omega) ha hb]
    have := ful_le a b
    have := ful_ge a b
    split <;> omega)
  have e : (((N + 1).toNat : Nat) : Int) - 1 = N := by omega
  rw [e] at this
  exact this
set_option maxRecDepth 100000 in
theorem nothZ_close {N : Int} (h0 : 0 ≤ N) (h1 : N ≤ 24) : closeZ (nothZ N) = (zn0, false) := by
  rcases closeZ_cases (nothZ N) with ⟨e, _⟩ | ⟨L, e, hv, hB⟩
  · exact e
  · exfalso
    have hd := hv.dim
    have h2 := hB.zero hv (a := 0) (by omega)
    have h3 := hB.below hv (a := 0) (b := 0) (by omega) (by omega)
    have h4 : mt (dm (nothZ N)) (nothZ N).b 0 0 = -20001 := by
      show mt (N + 1).toNat ((fulL (N + 1).toNat).set 0 (-20001)) 0 0 = _
      rw [nothZ_mt (by omega) (by omega) (by omega)]
      rfl
    omega
set_option maxRecDepth 100000 in
theorem zn0_bad : ¬ ValZ zn0 := by decide
/-- The least bounds of x, if there are any, are below M. -/
def SubM (x : Zn) (M : Mat) : Prop := ∀ L, closeZ x = (⟨x.N, L⟩, true) → Leq (dm x) (mt (dm x) L) M
set_option maxRecDepth 100000 in
theorem subZ_iff {x y : Zn} (h : Both x y) : subZ x y = true ↔ SubM x (mt (dm x) y.b) := by
  rcases closeZ_cases x with ⟨e, _⟩ | ⟨L, e, hv, hB⟩
  · rw [subZ_empty h e]
    exact ⟨fun _ L e' => by rw [e] at e'; exact absurd (congrArg Prod.snd e') (by simp), fun _ => rfl⟩
  · rw [subZ_yes h e, decide_eq_true_iff]
    constructor
    · intro h1 L' e'
      rw [e] at e'
      injection e' with e1 e2
      injection e1 with e3 e4
      subst e4
      exact h1
    · intro h1
      exact h1 L e
set_option maxRecDepth 100000 in
theorem SubM.self {x : Zn} : SubM x (mt (dm x) x.b) := fun L e => by
  rcases closeZ_cases x with ⟨e', _⟩ | ⟨L', e', hv, hB⟩
  · rw [e'] at e; exact absurd (congrArg Prod.snd e) (by simp)
  · rw [e'] at e
    injection e with e1 e2
    injection e1 with e3 e4
    subst e4
    exact fun a b ha hb => hB.below hv ha hb
set_option maxRecDepth 100000 in
theorem SubM.full {x : Zn} : SubM x ful := fun L e => by
  rcases closeZ_cases x with ⟨e', _⟩ | ⟨L', e', hv, hB⟩
  · rw [e'] at e; exact absurd (congrArg Prod.snd e) (by simp)
  · rw [e'] at e
    injection e with e1 e2
    injection e1 with e3 e4
    subst e4
    exact fun a b ha hb => hB.full hv ha hb
set_option maxRecDepth 100000 in
theorem SubM.mono {x : Zn} {M M' : Mat} (h : SubM x M) (hm : Leq (dm x) M M') : SubM x M' := fun L e a b ha hb => Int.le_trans (h L e a b ha hb) (hm a b ha hb)
set_option maxRecDepth 100000 in
theorem SubM.none {x : Zn} (e : closeZ x = (zn0, false)) (M : Mat) : SubM x M := fun L e' => by rw [e] at e'; exact absurd (congrArg Prod.snd e') (by simp)
set_option maxRecDepth 100000 in
theorem SubM.of {x : Zn} {L : List Int} (e : closeZ x = (⟨x.N, L⟩, true)) {M : Mat} : SubM x M ↔ Leq (dm x) (mt (dm x) L) M :=
  ⟨fun h => h L e, fun h L' e' => by
    rw [e] at e'
    injection e' with e1 e2
    injection e1 with e3 e4
    subst e4
    exact h⟩
set_option maxRecDepth 100000 in
/-- The two ways in which two zones are joined and widened. -/
theorem join_spec {a b : Zn} (h : Both a b) : (joinZ a b).2 = 0 ∧ ValZ (joinZ a b).1 ∧ (joinZ a b).1.N = a.N ∧ SubM a (mt (dm a) (joinZ a b).1.b) ∧ SubM b (mt (dm a) (joinZ a b).1.b) ∧
    ∀ M, SubM a M → SubM b M → SubM (joinZ a b).1 M := by
  obtain ⟨ha, hb, hn⟩ := h
  have h : Both a b := ⟨ha, hb, hn⟩
  have hda := ha.dim
  have hdm := h.dm
  rcases closeZ_cases a with ⟨ea, _⟩ | ⟨L, ea, -, hL⟩
  · rcases closeZ_cases b with ⟨eb, _⟩ | ⟨L', eb, -, hL'⟩
    · rw [joinZ_00 h ea eb]
      have e0 := nothZ_close (N := a.N) (by omega) (by omega)
      exact ⟨rfl, nothZ_val (by omega) (by omega), rfl, SubM.none ea _, SubM.none eb _, fun M _ _ => SubM.none e0 M⟩
    · rw [joinZ_01 h ea eb]
      refine ⟨rfl, hL'.val hb, hn.symm, SubM.none ea _, ?_, fun M _ hM => ?_⟩
      · rw [SubM.of eb, hdm]; exact fun _ _ _ _ => Int.le_refl _
      · exact (SubM.of (x := ⟨b.N, L'⟩) (hL'.again hb)).2 ((SubM.of eb).1 hM)
  · rcases closeZ_cases b with ⟨eb, _⟩ | ⟨L', eb, -, hL'⟩
    · rw [joinZ_10 h ea eb]
      refine ⟨rfl, hL.val ha, rfl, ?_, SubM.none eb _, fun M hM _ => ?_⟩
      · rw [SubM.of ea]; exact fun _ _ _ _ => Int.le_refl _
      · exact (SubM.of (x := ⟨a.N, L⟩) (hL.again ha)).2 ((SubM.of ea).1 hM)
    · rw [joinZ_11 h ea eb]
      have l1 := hL.len
      have l2 := hL'.len
      rw [← hdm] at l2
      have hv : ValZ ⟨a.N, List.zipWith max L L'⟩ := by
        have := valZ_of (n := dm a) (L := List.zipWith max L L') (by omega) (by omega) (by rw [List.length_zipWith]; omega) (fun x y hx hy => by
          rw [zip_mt l1 l2 hx hy]
          have h1 := hL.in64 ha hx hy
          have h2 := hL'.in64 hb (hdm ▸ hx) (hdm ▸ hy)
          rw [← hdm] at h2
          omega)
        rwa [← hda.1] at this
      refine ⟨rfl, hv, rfl, ?_, ?_, fun M h1 h2 => ?_⟩
      · rw [SubM.of ea]
        intro x y hx hy
        rw [zip_mt l1 l2 hx hy]
        omega
      · rw [SubM.of eb]
        intro x y hx hy
        rw [← hdm] at hx hy ⊢
        rw [zip_mt l1 l2 hx hy]
        omega
      · refine SubM.self.mono ?_
        intro x y hx hy
        change mt (dm a) (List.zipWith max L L') x y ≤ _
        rw [zip_mt l1 l2 hx hy]
        have g1 := (SubM.of ea).1 h1 x y hx hy
        have g2 := (SubM.of eb).1 h2 x y (hdm ▸ hx) (hdm ▸ hy)
        rw [← hdm] at g2
        omega
set_option maxRecDepth 100000 in
theorem wid_spec {a b : Zn} (h : Both a b) : (widZ a b).2 = 0 ∧ ValZ (widZ a b).1 ∧ (widZ a b).1.N = a.N ∧ SubM a (mt (dm a) (widZ a b).1.b) ∧ SubM b (mt (dm a) (widZ a b).1.b) ∧ SubM (joinZ a b).1 (mt (dm a) (widZ a b).1.b) := by
  obtain ⟨ha, hb, hn⟩ := h
  have h : Both a b := ⟨ha, hb, hn⟩
  have hj := join_spec h
  have hda := ha.dim
  have hdm := h.dm
  rcases closeZ_cases b with ⟨eb, _⟩ | ⟨L', eb, -, hL'⟩
  · rw [widZ_x0 h eb]
    exact ⟨rfl, ha, rfl, SubM.self, SubM.none eb _, hj.2.2.2.2.2 _ SubM.self (SubM.none eb _)⟩
  · rcases closeZ_cases a with ⟨ea, _⟩ | ⟨L, ea, -, hL⟩
    · rw [widZ_01 h ea eb]
      have h2 : SubM b (mt (dm a) L') := by rw [SubM.of eb, hdm]; exact fun _ _ _ _ => Int.le_refl _
      exact ⟨rfl, hL'.val hb, hn.symm, SubM.none ea _, h2, hj.2.2.2.2.2 _ (SubM.none ea _) h2⟩
    · rw [widZ_11 h ea eb]
      have l2 := hL'.len
      rw [← hdm] at l2
      have h1 : SubM a (mt (dm a) (widL (dm a) L' a.b)) := by
        rw [SubM.of ea]
        intro x y hx hy
        rw [widL_mt hx hy]
        have g1 := hL.below ha hx hy
        have g2 := hL.full ha hx hy
        split <;> omega
      have h2 : SubM b (mt (dm a) (widL (dm a) L' a.b)) := by
        rw [SubM.of eb]
        intro x y hx hy
        have g2 := hL'.full hb hx hy
        rw [← hdm] at hx hy g2 ⊢
        rw [widL_mt hx hy]
        split <;> omega
      refine ⟨rfl, ?_, rfl, h1, h2, hj.2.2.2.2.2 _ h1 h2⟩
      have := valZ_of (n := dm a) (L := widL (dm a) L' a.b) (by omega) (by omega) (widL_len _ _ _) (fun x y hx hy => by
        rw [widL_mt hx hy]
        have g1 := ha.bd hx hy
        have g2 := ful_le x y
        have g3 := ful_ge x y
        split <;> omega)
      rwa [← hda.1] at this
set_option maxRecDepth 100000 in
theorem joinZ_val (a b : Zn) : ValZ (joinZ a b).1 ↔ (joinZ a b).2 = 0 := by
  by_cases h : Both a b
  · have := join_spec h
    exact ⟨fun _ => this.1, fun _ => this.2.1⟩
  · rw [joinZ_no h]
    exact ⟨fun h => absurd h zn0_bad, fun h => absurd h (by decide)⟩
set_option maxRecDepth 100000 in
theorem val_len {z : Zn} (h : ValZ z) : z.b.length ≤ 1000000000 := by
  have hd := h.dim
  have := mul25 hd.2.2.1 hd.2.2.1
  omega
set_option maxRecDepth 100000 in
theorem joinZ_len (a b : Zn) : (joinZ a b).1.b.length ≤ 1000000000 := by
  by_cases h : Both a b
  · exact val_len (join_spec h).2.1
  · rw [joinZ_no h]; decide
set_option maxRecDepth 100000 in
theorem widZ_len (a b : Zn) : (widZ a b).1.b.length ≤ 1000000000 := by
  by_cases h : Both a b
  · exact val_len (wid_spec h).2.1
  · rw [widZ_no h]; decide
end Go.Proofs.Ytjkbkmbblidipaa
