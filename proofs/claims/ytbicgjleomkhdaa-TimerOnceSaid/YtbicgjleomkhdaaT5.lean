/- Package timer: Set, Cancel, Expire. -/
import Derived.Test.YtbicgjleomkhdaaT4
namespace Go.Proofs.Ytbicgjleomkhdaa
open Go.RowKit


set_option maxRecDepth 100000 in
theorem mem_tw {α : Type} {p : α → Bool} : ∀ {l : List α} {a : α}, a ∈ l.takeWhile p → p a = true
  | x :: l, a, h => by
    rw [List.takeWhile_cons] at h
    split at h
    · rename_i hx
      rcases List.mem_cons.1 h with rfl | h
      · exact hx
      · exact mem_tw h
    · cases h
set_option maxRecDepth 100000 in
theorem tw_take {α : Type} (p : α → Bool) : ∀ (l : List α) (k : Nat), k ≤ l.length → (∀ (j : Nat) (hj : j < l.length), j < k → p l[j] = true) → (∀ (j : Nat) (hj : j < l.length), j = k → p l[j] = false) → l.takeWhile p = l.take k ∧ l.dropWhile p = l.drop k
  | [], k, hk, _, _ => by simp at hk; subst hk; simp
  | x :: l, 0, _, _, h2 => by
    have := h2 0 (by simp) rfl
    simp at this
    simp [this]
  | x :: l, k + 1, hk, h1, h2 => by
    have hx := h1 0 (by simp) (by omega)
    simp at hx
    obtain ⟨e1, e2⟩ := tw_take p l k (by simpa using hk) (fun j hj hjk => by have := h1 (j + 1) (by simpa using hj) (by omega); simpa using this) (fun j hj hjk => by have := h2 (j + 1) (by simpa using hj) (by omega); simpa using this)
    simp [hx, e1, e2]
set_option maxRecDepth 100000 in
theorem befT_trans {a b c : Tm} (h : befT a b) (k : befT b c) : befT a c := by unfold befT at *; omega
set_option maxRecDepth 100000 in
theorem befT_irr {a : Tm} : ¬ befT a a := by unfold befT; omega
set_option maxRecDepth 100000 in
theorem ValidT.srt {t : List Tm} (h : ValidT t) : t.Pairwise befT := by
  have step : ∀ (d i : Nat) (_ : i + 1 + d < t.length), befT (gT t i) (gT t (i + 1 + d)) := by
    intro d
    induction d with
    | zero =>
      intro i hi
      exact (h.1 (i + 1) (by omega)).2.1 (by omega)
    | succ d ih =>
      intro i hi
      exact befT_trans (ih i (by omega)) ((h.1 (i + 1 + (d + 1)) (by omega)).2.1 (by omega))
  rw [List.pairwise_iff_getElem]
  intro i j hi hj hij
  have := step (j - i - 1) i (by omega)
  rw [gT_at hi, gT_at (by omega)] at this
  have e : i + 1 + (j - i - 1) = j := by omega
  simp only [e] at this
  exact this
set_option maxRecDepth 100000 in
theorem ValidT.ids {t : List Tm} (h : ValidT t) : t.Pairwise fun a b => a.2 ≠ b.2 := by
  rw [List.pairwise_iff_getElem]
  intro i j hi hj hij
  have := (h.1 j hj).2.2 i hij
  rwa [gT_at hi, gT_at hj] at this
set_option maxRecDepth 100000 in
theorem ValidT.ok {t : List Tm} (h : ValidT t) : ∀ x ∈ t, okT x := fun x hx => by
  obtain ⟨i, hi, rfl⟩ := List.getElem_of_mem hx
  have := (h.1 i hi).1
  rwa [gT_at hi] at this
set_option maxRecDepth 100000 in
theorem ValidT.of {t : List Tm} (h1 : ∀ x ∈ t, okT x) (h2 : t.Pairwise befT) (h3 : t.Pairwise fun a b => a.2 ≠ b.2) (h4 : t.length ≤ 300) : ValidT t := by
  rw [List.pairwise_iff_getElem] at h2 h3
  refine ⟨fun i hi => ⟨?_, fun h0 => ?_, fun k hk => ?_⟩, h4⟩
  · rw [gT_at hi]
    exact h1 _ (List.getElem_mem hi)
  · rw [gT_at hi, gT_at (by omega)]
    exact h2 _ _ _ _ (by omega)
  · rw [gT_at hi, gT_at (by omega)]
    exact h3 _ _ _ _ hk
set_option maxRecDepth 100000 in
theorem ValidT.sub {s t : List Tm} (h : ValidT t) (hs : s.Sublist t) : ValidT s := ValidT.of (fun x hx => h.ok x (hs.subset hx)) (h.srt.sublist hs) (h.ids.sublist hs) (Nat.le_trans hs.length_le h.2)
set_option maxRecDepth 100000 in
theorem woutT_sub (t : List Tm) (id : Int) : (woutT t id).Sublist t := List.filter_sublist
set_option maxRecDepth 100000 in
theorem mem_wout {t : List Tm} {id : Int} {x : Tm} : x ∈ woutT t id ↔ x ∈ t ∧ x.2 ≠ id := by
  unfold woutT
  simp
/-- The table with a further timer. -/
def insT (l : List Tm) (x : Tm) : List Tm := l.takeWhile (fun y => decide (befT y x)) ++ x :: l.dropWhile (fun y => decide (befT y x))
set_option maxRecDepth 100000 in
theorem insT_at {l : List Tm} {x : Tm} {k : Nat} (hk : k ≤ l.length) (h1 : ∀ (j : Nat) (hj : j < l.length), j < k → befT l[j] x) (h2 : ∀ (j : Nat) (hj : j < l.length), k ≤ j → ¬ befT l[j] x) : l.take k ++ x :: l.drop k = insT l x := by
  obtain ⟨e1, e2⟩ := tw_take (fun y => decide (befT y x)) l k hk (fun j hj hjk => decide_eq_true (h1 j hj hjk)) (fun j hj hjk => decide_eq_false (h2 j hj (by omega)))
  unfold insT
  rw [e1, e2]
set_option maxRecDepth 100000 in
theorem mem_insT {l : List Tm} {x y : Tm} : y ∈ insT l x ↔ y = x ∨ y ∈ l := by
  unfold insT
  have : y ∈ l ↔ y ∈ l.takeWhile (fun y => decide (befT y x)) ∨ y ∈ l.dropWhile (fun y => decide (befT y x)) := by rw [← List.mem_append, List.takeWhile_append_dropWhile]
  rw [List.mem_append, List.mem_cons, this]
  constructor <;> (intro h; rcases h with h | h | h <;> simp [h])
set_option maxRecDepth 100000 in
theorem dw_ge {l : List Tm} {x : Tm} (hs : l.Pairwise befT) : ∀ y ∈ l.dropWhile (fun y => decide (befT y x)), ¬ befT y x := by
  induction l with
  | nil => simp
  | cons a l ih =>
    intro y hy
    rw [List.dropWhile_cons] at hy
    split at hy
    · exact ih (List.Pairwise.of_cons hs) y hy
    · rename_i ha
      have ha : ¬ befT a x := by simpa using ha
      rcases List.mem_cons.1 hy with rfl | hy
      · exact ha
      · exact fun hb => ha (befT_trans ((List.pairwise_cons.1 hs).1 y hy) hb)
set_option maxRecDepth 100000 in
theorem befT_tri {a b : Tm} (h : ¬ befT a b) (hn : a.2 ≠ b.2) : befT b a := by unfold befT at *; omega
set_option maxRecDepth 100000 in
theorem insT_len (l : List Tm) (x : Tm) : (insT l x).length = l.length + 1 := by
  unfold insT
  have : (l.takeWhile (fun y => decide (befT y x))).length + (l.dropWhile (fun y => decide (befT y x))).length = l.length := by rw [← List.length_append, List.takeWhile_append_dropWhile]
  rw [List.length_append, List.length_cons]
  omega
set_option maxRecDepth 100000 in
theorem insT_valid {l : List Tm} {x : Tm} (h : ValidT l) (hx : okT x) (hn : ∀ y ∈ l, y.2 ≠ x.2) (hl : l.length < 300) : ValidT (insT l x) := by
  have m1 : ∀ y ∈ l.takeWhile (fun y => decide (befT y x)), y ∈ l := fun y hy => (List.takeWhile_sublist _).subset hy
  have m2 : ∀ y ∈ l.dropWhile (fun y => decide (befT y x)), y ∈ l := fun y hy => (List.dropWhile_sublist _).subset hy
  have q1 := h.srt
  have q2 := h.ids
  rw [← List.takeWhile_append_dropWhile (p := fun y => decide (befT y x)) (l := l), List.pairwise_append] at q1 q2
  refine ValidT.of (fun y hy => ?_) ?_ ?_ (by rw [insT_len]; omega)
  · rcases mem_insT.1 hy with rfl | hy
    · exact hx
    · exact h.ok y hy
  · unfold insT
    rw [List.pairwise_append, List.pairwise_cons]
    refine ⟨q1.1, ⟨fun y hy => befT_tri (dw_ge h.srt y hy) (hn y (m2 y hy)), q1.2.1⟩, fun a ha b hb => ?_⟩
    rcases List.mem_cons.1 hb with rfl | hb
    · exact of_decide_eq_true (mem_tw (p := fun y => decide (befT y b)) ha)
    · exact q1.2.2 a ha b hb
  · unfold insT
    rw [List.pairwise_append, List.pairwise_cons]
    refine ⟨q2.1, ⟨fun y hy => (hn y (m2 y hy)).symm, q2.2.1⟩, fun a ha b hb => ?_⟩
    rcases List.mem_cons.1 hb with rfl | hb
    · exact hn a (m1 a ha)
    · exact q2.2.2 a ha b hb
def setT (t : List Tm) (id at_ : Int) : Int × List Tm := if ¬ ValidT t then (1, []) else if ¬ okT (at_, id) then (2, []) else if 300 ≤ (woutT t id).length then (6, []) else (0, insT (woutT t id) (at_, id))
def cancelT (t : List Tm) (id : Int) : Int × List Tm := if ¬ ValidT t then (1, []) else if (woutT t id).length = t.length then (8, []) else (0, woutT t id)
def expT (t : List Tm) (now : Int) : List Tm × List Int := if ¬ ValidT t then ([], []) else (t.dropWhile (fun x => decide (x.1 ≤ now)), (t.takeWhile (fun x => decide (x.1 ≤ now))).map (·.2))
set_option maxRecDepth 100000 in
theorem shr1 (n : Nat) : ((n : Nat) : Int).fdiv (2 ^ (1 : Int).toNat) = ((n / 2 : Nat) : Int) := by
  rw [Int.fdiv_eq_ediv_of_nonneg _ (by decide)]
  show (n : Int) / 2 = _
  omega
set_option maxRecDepth 100000 in
theorem bsT_c (A : Option Addr) (c : Nat) (l : List Tm) (x : Tm) (H : Heap) (hA : Rd eTm H A l) (hl : l.length ≤ 100000) (hs : ∀ (i j : Nat) (hi : i < l.length) (hj : j < l.length), i ≤ j → befT l[j] x → befT l[i] x) :
    CallsH Try.prog 29 [.slice A l.length c, .agg (eTm.F x).toArray, .func (.func 27) #[] #[]] H fun v H' => ∃ (k : Nat) (b : Bool), v = .tuple #[.int .i64 k, .bool b] ∧ k ≤ l.length ∧ (∀ (j : Nat) (hj : j < l.length), j < k → befT l[j] x) ∧ (∀ (j : Nat) (hj : j < l.length), k ≤ j → ¬ befT l[j] x) ∧ Ext H H' := by
  refine callsH_of Try.func29 rfl Try.ntmps29 (Nat.le_of_ble_eq_true rfl) ?_
  refine wpSeq fun F1 hF1 => ?_
  refine wpRegion ?_
  refine seqN rfl rfl (nBoxA rfl rfl) (fun g4 H4 hx4 hB4 hg4 hl4 => ?_)
  refine seqQ rfl rfl (yAssign (v := .int _ _) rfl rfl) ?_
  refine seqQ rfl rfl (yAssign (v := .bool _) rfl rfl) ?_
  refine seqNil ?_
  refine hF1 _ _ ?_; clear hF1
  refine wpSeq fun F2 hF2 => ?_
  refine wpRegion ?_
  refine seqQ rfl rfl (yMove (v := .slice _ _ _) rfl rfl) ?_
  refine seqQ rfl rfl (yLen rfl Try.underlying26 rfl) ?_
  refine seqQ rfl rfl (yAssign (v := .int _ _) rfl rfl) ?_
  refine seqNil ?_
  refine hF2 _ _ ?_; clear hF2
  refine wpSeq fun F3 hF3 => ?_
  refine wpRegion ?_
  refine seqQ rfl rfl (yMove (v := .int _ _) rfl rfl) ?_
  refine seqQ rfl rfl (yAssign (v := .int _ _) rfl rfl) ?_
  refine seqQ rfl rfl (yAssign (v := .int _ _) rfl rfl) ?_
  refine seqNil ?_
  refine hF3 _ _ ?_; clear hF3
  refine wpSeq fun F4 hF4 => ?_
  -- loop
  refine wpBlock ?_
  refine wpLoopS [9, 10, 11, 15, 16, 17, 18, 19, 20, 21, 22, 23, 24, 25, 26, 27, 28, 29, 30, 31, 32, 33, 34] (fun x : Nat × Nat => [(9, .int .i64 x.1), (10, .int .i64 x.2)]) (fun y H' => y.1 ≤ y.2 ∧ y.2 ≤ l.length ∧ (∀ (j : Nat) (hj : j < l.length), j < y.1 → befT l[j] x) ∧ (∀ (j : Nat) (hj : j < l.length), y.2 ≤ j → ¬ befT l[j] x) ∧ Ext H4 H') (fun x => x.2 - x.1) (0, l.length) ⟨rfl, rfl, trivial⟩ ⟨Nat.zero_le _, Nat.le_refl _, fun j hj h => absurd h (by omega), fun j hj h => absurd h (by dsimp only; omega), Ext.refl _⟩ ?_
  rintro ⟨a, b⟩ J H1 ⟨hab, hbl, hlo, hhi, hE⟩
  dsimp only at hab hbl hlo hhi
  have h4 := hB4.ext hE
  refine wpSeq fun F5 hF5 => ?_
  refine wpSeq fun F6 hF6 => ?_
  refine wpRegion ?_
  refine seqQ rfl rfl (yMove (v := .int _ _) rfl rfl) ?_
  refine seqQ rfl rfl (yMove (v := .int _ _) rfl rfl) ?_
  refine seqQ rfl rfl (yLss rfl rfl rfl) ?_
  refine seqNil ?_
  refine hF6 _ _ ?_; clear hF6
  -- if t17
  refine wpIf rfl (fun hlt => ?_) (fun hlt => ?_)
  · skip
    have hlt : a < b := by dsimp only at hlt; omega
    obtain ⟨h, hh⟩ : ∃ h, h = (a + b) / 2 := ⟨_, rfl⟩
    have hhl : h < l.length := by omega
    obtain ⟨p, ep, hp⟩ := ((hA.ext hx4).ext hE).at hhl
    refine wpSkip ?_
    refine hF5 _ _ ?_; clear hF5
    refine wpBlock ?_
    refine wpSeq fun F7 hF7 => ?_
    refine wpRegion ?_
    refine seqQ rfl rfl (yMove (v := .int _ _) rfl rfl) ?_
    refine seqQ rfl rfl (yMove (v := .int _ _) rfl rfl) ?_
    refine seqQ rfl rfl (yAdd rfl rfl rfl (by unfold In64; dsimp only; omega)) ?_
    refine seqQ rfl rfl (yConv rfl Try.underlying3 Try.underlying71 rfl (show IntKind.u64.wrap ((a : Int) + (b : Int)) = ((a + b : Nat) : Int) by rw [IntKind.wrap_u64]; omega)) ?_
    refine seqQ rfl rfl (yShrE rfl rfl rfl (by decide) (shr1 (a + b))) ?_
    refine seqQ rfl rfl (yConv rfl Try.underlying71 Try.underlying3 rfl (show IntKind.i64.wrap (((a + b) / 2 : Nat) : Int) = (h : Int) by rw [IntKind.wrap_i64]; omega)) ?_
    refine seqQ rfl rfl (yAssign (v := .int _ _) rfl rfl) ?_
    refine seqNil ?_
    refine hF7 _ _ ?_; clear hF7
    refine wpSeq fun F8 hF8 => ?_
    refine wpRegionD Try_mixed [.q, .q, .q, .q, .q, .q, .e, .q] 6 [0, 0, 0, 6, 14, 0, 63, 127] [] (by kernel_rfl) _ rfl [0, 1, 2, 3, 4, 5] rfl (by simp) ?_
    refine lexQ rfl rfl rfl rfl (fun H hM => (yMove (v := .func _ _ _) rfl rfl)) ?_
    refine lexQ rfl rfl rfl rfl (fun H hM => (yMove (v := .slice _ _ _) rfl rfl)) ?_
    refine lexQ rfl rfl rfl rfl (fun H hM => (yMove (v := .int _ _) rfl rfl)) ?_
    refine lexQ rfl rfl rfl rfl (fun H hM => (yIdxP rfl Try.underlying26 Try.sizeOf58 rfl rfl ep rfl hhl)) ?_
    refine lexQ rfl rfl rfl rfl (fun H hM => (yLoadC (cs := eTm.F l[h]) rfl Try.underlying58 rfl Try.sizeOf58 rfl (fun j u hu => hM.ext.cell (hp j u hu)))) ?_
    refine lexQ rfl rfl rfl rfl (fun H hM => (yLoadB (h4.ext hM.ext) rfl Try.underlying58 rfl Try.sizeOf58 rfl)) ?_
    -- tail
    refine lexNil0 rfl (fun hM => ?_)
    -- e slot 30: callv t24 t28 t29
    refine seqE rfl rfl (stepCallV (first := []) (cap := []) rfl Try.call27 rfl rfl ?_)
    refine (order_c l[h] x H1).mono ?_
    rintro v H2 ⟨rfl, x2⟩
    refine seqQ rfl rfl (yLss rfl rfl rfl) ?_
    refine seqNil ?_
    refine hF8 _ _ ?_; clear hF8
    -- if t31
    refine wpIf rfl (fun hc => ?_) (fun hc => ?_)
    · skip
      have hc := (ordT_neg _ _).1 hc
      refine wpRegion ?_
      refine seqQ rfl rfl (yMove (v := .int _ _) rfl rfl) ?_
      refine seqQ rfl rfl (yAdd rfl rfl rfl (by unfold In64; omega)) ?_
      refine seqQ rfl rfl (yAssign (v := .int _ _) rfl rfl) ?_
      refine seqNil ?_
      -- end loop
      exact loopEnd (h + 1, b) (by repeat (first | (with_reducible exact Agree.refl _ _) | refine Agree.upd ?_ rfl | refine Agree.over ?_ rfl)) (by dsimp only; omega) ⟨rfl, rfl, trivial⟩ ⟨by dsimp only; omega, hbl, fun j hj hjh => hs j h hj hhl (by dsimp only at hjh; omega) hc, hhi, hE.trans x2⟩
    · skip
      have hc : ¬ befT l[h] x := fun hb => hc ((ordT_neg _ _).2 hb)
      refine wpRegion ?_
      refine seqQ rfl rfl (yMove (v := .int _ _) rfl rfl) ?_
      refine seqQ rfl rfl (yAssign (v := .int _ _) rfl rfl) ?_
      refine seqNil ?_
      -- end loop
      exact loopEnd (a, h) (by repeat (first | (with_reducible exact Agree.refl _ _) | refine Agree.upd ?_ rfl | refine Agree.over ?_ rfl)) (by dsimp only; omega) ⟨rfl, rfl, trivial⟩ ⟨by dsimp only; omega, by dsimp only; omega, hlo, fun j hj hjh hb => hc (hs h j hhl hj hjh hb), hE.trans x2⟩
  · skip
    obtain rfl : a = b := by dsimp only at hlt; omega
    refine wpExit ?_
    refine hF4 _ _ ?_; clear hF4
    refine wpSeq fun F9 hF9 => ?_
    refine wpRegionD Try_mixed [.q, .q, .q, .q, .q, .q, .q, .q, .q, .q, .q, .e, .q, .q, .q, .q] 15 [0, 0, 0, 6, 14, 30, 30, 30, 222, 478, 30, 2046, 4094, 8190, 4095, 32767] [] (by kernel_rfl) _ rfl [0, 1, 2, 3, 4, 5, 6, 7, 8, 9, 10, 11, 12, 13, 14] rfl (by simp) ?_
    refine lexQ rfl rfl rfl rfl (fun H hM => (yMove (v := .int _ _) rfl rfl)) ?_
    refine lexQ rfl rfl rfl rfl (fun H hM => (yMove (v := .int _ _) rfl rfl)) ?_
    refine lexQ rfl rfl rfl rfl (fun H hM => (yMove (v := .int _ _) rfl rfl)) ?_
    refine lexQ rfl rfl rfl rfl (fun H hM => (yLss rfl rfl rfl)) ?_
    -- guard t39
    refine lexG rfl rfl rfl rfl rfl rfl (fun hal => ?_) (fun hal => ?_)
    · skip
      have hal : a < l.length := by dsimp only at hal; omega
      obtain ⟨p, ep, hp⟩ := ((hA.ext hx4).ext hE).at hal
      refine lexQ rfl rfl rfl rfl (fun H hM => (yMove (v := .func _ _ _) rfl rfl)) ?_
      refine lexQ rfl rfl rfl rfl (fun H hM => (yMove (v := .slice _ _ _) rfl rfl)) ?_
      refine lexQ rfl rfl rfl rfl (fun H hM => (yMove (v := .int _ _) rfl rfl)) ?_
      refine lexQ rfl rfl rfl rfl (fun H hM => (yIdxP rfl Try.underlying26 Try.sizeOf58 rfl rfl ep rfl hal)) ?_
      refine lexQ rfl rfl rfl rfl (fun H hM => (yLoadC (cs := eTm.F l[a]) rfl Try.underlying58 rfl Try.sizeOf58 rfl (fun j u hu => hM.ext.cell (hp j u hu)))) ?_
      refine lexQ rfl rfl rfl rfl (fun H hM => (yLoadB (h4.ext hM.ext) rfl Try.underlying58 rfl Try.sizeOf58 rfl)) ?_
      -- e slot 46: callv t40 t44 t45
      refine lexE0 rfl rfl rfl rfl rfl (fun hM46 => stepCallV (first := []) (cap := []) rfl Try.call27 rfl rfl ?_)
      refine (order_c l[a] x H1).mono ?_
      rintro v H2 ⟨rfl, x2⟩
      refine ⟨x2.keep _, [], by simp, ?_⟩
      refine lexQ rfl rfl rfl rfl (fun H hM => (yEql rfl rfl rfl)) ?_
      refine lexQ rfl rfl rfl rfl (fun H hM => (yPickT (v := .bool _) rfl rfl rfl)) ?_
      refine lexQ rfl rfl rfl rfl (fun H hM => (yAssign (v := .int _ _) rfl rfl)) ?_
      -- tail
      refine lexNil0 rfl (fun hM => ?_)
      refine seqQ rfl rfl (yAssign (v := .bool _) rfl rfl) ?_
      refine seqNil ?_
      refine hF9 _ _ ?_; clear hF9
      -- ret
      refine wpRet (fin2 (v := .int _ _) (v' := .bool _) rfl rfl rfl ?_)
      exact ⟨a, _, rfl, hbl, hlo, hhi, (hx4.trans hE).trans x2⟩
    · skip
      refine lexU rfl rfl rfl ?_
      refine lexU rfl rfl rfl ?_
      refine lexU rfl rfl rfl ?_
      refine lexU rfl rfl rfl ?_
      refine lexU rfl rfl rfl ?_
      refine lexU rfl rfl rfl ?_
      refine lexU rfl rfl rfl ?_
      refine lexU rfl rfl rfl ?_
      refine lexQ rfl rfl rfl rfl (fun H hM => (yPickF (v := .bool _) rfl rfl rfl)) ?_
      refine lexQ rfl rfl rfl rfl (fun H hM => (yAssign (v := .int _ _) rfl rfl)) ?_
      -- tail
      refine lexNil0 rfl (fun hM => ?_)
      refine seqQ rfl rfl (yAssign (v := .bool _) rfl rfl) ?_
      refine seqNil ?_
      refine hF9 _ _ ?_; clear hF9
      -- ret
      refine wpRet (fin2 (v := .int _ _) (v' := .bool _) rfl rfl rfl ?_)
      exact ⟨a, _, rfl, hbl, hlo, hhi, hx4.trans hE⟩
set_option maxRecDepth 100000 in
theorem overlaps_tm {H : Heap} {a b i j la ca lb cb : Nat} {xs ys : List Value} {Ta Tb : TypeId} (hA : Blk H a xs Ta) (hB : Blk H b ys Tb) (hab : a ≠ b) (hbs : ys ≠ []) (w : World) (hw : w.heap = H) :
    (callFunc 38 #[.slice (some ⟨a, i, none⟩) la ca, .slice (some ⟨b, j, none⟩) lb cb]).run Try.prog w = .ok (.value (.bool false)) w :=
  run_overlaps (tR := 4) Try.func38 (by kernel_rfl) (by kernel_rfl) (by kernel_rfl) (by kernel_rfl) Try.underlying25 Try.sizeOf58 hA hB hab hbs w hw
set_option maxRecDepth 100000 in
theorem insert_tm (v : Value) (l : List Tm) (i : Nat) (x : Tm) (gv : Nat) (base : Nat) (H : Heap) (hb : base ≤ H.size) (hown : Own eTm 58 H base v l) (hV : Blk H gv (eTm.F x) 58) (hne : v.ownBlock ≠ some gv) (hi : i ≤ l.length) (hl : l.length ≤ 1000000) :
    CallsH Try.prog 30 [v, .int .i64 i, .slice (some ⟨gv, 0, none⟩) 1 1] H fun v' H' => Own eTm 58 H' base v' (l.take i ++ x :: l.drop i) ∧ Grew H v H' v' := by
  obtain ⟨A, cap, rfl, hlc, hrd, hbb⟩ := hown.form
  have rV : Rd eTm H (some ⟨gv, 0, none⟩) [x] := Blk.rd (by simpa using hV)
  have hF : ∀ y : Tm, (eTm.F y).length = 2 := fun y => eTm.len y
  have h2 : ∀ z : List Tm, (z.flatMap eTm.F).length = z.length * 2 := fun z => eTm.flat_len z
  refine callsH_of Try.func30 rfl Try.ntmps30 (Nat.le_of_ble_eq_true rfl) ?_
  refine wpSeq fun F1 hF1 => ?_
  refine wpRegion ?_
  refine seqQ rfl rfl (yAssign (v := .slice _ _ _) rfl rfl) ?_
  refine seqNil ?_
  refine hF1 _ _ ?_; clear hF1
  refine wpSeq fun F2 hF2 => ?_
  refine wpRegion ?_
  refine seqQ rfl rfl (yMove (v := .slice _ _ _) rfl rfl) ?_
  refine seqQ rfl rfl (yMove (v := .int _ _) rfl rfl) ?_
  refine seqQ rfl rfl (ySliceL rfl Try.underlying26 Try.sizeOf58 rfl rfl rfl hi) ?_
  refine seqNil ?_
  refine hF2 _ _ ?_; clear hF2
  refine wpSeq fun F3 hF3 => ?_
  refine wpRegion ?_
  refine seqQ rfl rfl (yMove (v := .slice _ _ _) rfl rfl) ?_
  refine seqQ rfl rfl (yLen rfl Try.underlying25 rfl) ?_
  refine seqQ rfl rfl (yAssign (v := .int _ _) rfl rfl) ?_
  refine seqNil ?_
  refine hF3 _ _ ?_; clear hF3
  refine wpSeq fun F4 hF4 => ?_
  refine wpSeq fun F5 hF5 => ?_
  refine wpRegion ?_
  refine seqQ rfl rfl (yMove (v := .int _ _) rfl rfl) ?_
  refine seqQ rfl rfl (yEql rfl rfl rfl) ?_
  refine seqNil ?_
  refine hF5 _ _ ?_; clear hF5
  -- if t16
  refine wpF rfl ?_
  refine wpSkip ?_
  refine hF4 _ _ ?_; clear hF4
  refine wpSeq fun F6 hF6 => ?_
  refine wpRegion ?_
  refine seqQ rfl rfl (yMove (v := .slice _ _ _) rfl rfl) ?_
  refine seqQ rfl rfl (yLen rfl Try.underlying26 rfl) ?_
  refine seqQ rfl rfl (yAssign (v := .int _ _) rfl rfl) ?_
  refine seqNil ?_
  refine hF6 _ _ ?_; clear hF6
  refine wpSeq fun F7 hF7 => ?_
  refine wpSeq fun F8 hF8 => ?_
  refine wpRegion ?_
  refine seqQ rfl rfl (yMove (v := .int _ _) rfl rfl) ?_
  refine seqQ rfl rfl (yMove (v := .int _ _) rfl rfl) ?_
  refine seqQ rfl rfl (yEql rfl rfl rfl) ?_
  refine seqNil ?_
  refine hF8 _ _ ?_; clear hF8
  -- if t22
  refine wpIf rfl (fun hin => ?_) (fun hin => ?_)
  · skip
    have hin : i = l.length := by omega
    refine wpSeq fun F9 hF9 => ?_
    refine wpRegion ?_
    refine seqQ rfl rfl (yMove (v := .slice _ _ _) rfl rfl) ?_
    refine seqQ rfl rfl (yMove (v := .slice _ _ _) rfl rfl) ?_
    -- e slot 25: builtin append t23 t24 : [26, 25]
    refine seqE rfl rfl (stepAppU (c := eTm) hown rfl Try.underlying26 Try.underlying25 elem_eTm rfl (by omega) rfl rfl rfl rV (by simp; omega) hb ?_)
    intro v2 H2 o2 g2
    obtain ⟨A2, c2, rfl, -⟩ := o2.form
    refine seqQ rfl rfl (yAssign (v := .slice _ _ _) rfl rfl) ?_
    refine seqNil ?_
    refine hF9 _ _ ?_; clear hF9
    -- ret
    refine wpRet (fin1 (v := .slice _ _ _) rfl rfl ?_)
    rw [hin, List.take_length, List.drop_length]
    exact ⟨o2, g2⟩
  · skip
    have hin : i < l.length := by omega
    obtain ⟨p, rfl, -⟩ := hrd.at (k := i) hin
    obtain ⟨hp1, hp2, hp3⟩ := hbb p rfl
    obtain ⟨g, rfl⟩ : ∃ g, p = ⟨g, 0, none⟩ := ⟨p.block, hp3⟩
    have hgb : base ≤ g := hp1
    have hgl : g < H.size := hp2
    have nmin : ∀ a b : Nat, a ≤ b → Nat.min a b = a := fun a b h => Nat.min_eq_left h
    have nmin2 : ∀ a b : Nat, b ≤ a → Nat.min a b = b := fun a b h => Nat.min_eq_right h
    have hgv : g ≠ gv := fun e => hne (by rw [← e]; rfl)
    obtain ⟨cur, hB, hcl, htk, -, -, -, hcm⟩ := hown.raw
    have hcl : cur.length = cap * 2 := hcl
    have htk : cur.take (l.length * 2) = l.flatMap eTm.F := htk
    have hflat : l.flatMap eTm.F = (l.take i).flatMap eTm.F ++ (l.drop i).flatMap eTm.F := by rw [← List.flatMap_append, List.take_append_drop]
    have l1 : ((l.take i).flatMap eTm.F).length = i * 2 := by rw [h2, List.length_take]; omega
    have l2 : ((l.drop i).flatMap eTm.F).length = (l.length - i) * 2 := by rw [h2, List.length_drop]
    have d0 : ∀ q j, (⟨q, 0, none⟩ : Addr).add j = ⟨q, j, none⟩ := add_head
    have hcells : ∀ j u, (l.flatMap eTm.F)[j]? = some u → cellH H ((⟨g, 0, none⟩ : Addr).add j) = some u := by
      obtain ⟨q, e, hc⟩ := hrd (List.ne_nil_of_length_pos (by omega))
      obtain rfl := Option.some.inj e
      exact hc
    have hdr : ∀ j u, ((l.drop i).flatMap eTm.F)[j]? = some u → cellH H (((⟨g, 0, none⟩ : Addr).add (i * 2)).add j) = some u := fun j u hu => by
      rw [add_of_add]
      refine hcells _ u ?_
      rw [hflat, List.getElem?_append_right (by omega), l1, show i * 2 + j - i * 2 = j by omega]
      exact hu
    have hcap : In64 (cap : Int) := by unfold maxLen at hcm; unfold In64; omega
    have hone := fun (z : List Tm) => eTm.flat_one z
    have hxl : (eTm.F x).length = 2 := hF x
    have hxo : ∀ u ∈ eTm.F x, u.oneCell' = true := eTm.one x
    have hxc : ∀ H', Blk H' gv (eTm.F x) 58 → eTm.F x ≠ [] → ∃ a, (some ⟨gv, 0, none⟩ : Option Addr) = some a ∧ ∀ j v, (eTm.F x)[j]? = some v → cellH H' (a.add j) = some v := fun H' hB _ => ⟨_, rfl, fun j u hu => hB.cell hu⟩
    have fin : ∀ (g' : Nat) (cap' : Nat) (c0 : List Value) (H' : Heap), Blk H' g' c0 58 → c0.length = cap' * 2 → l.length + 1 ≤ cap' → cap' ≤ maxLen → base ≤ g' → c0.take ((l.length + 1) * 2) = (l.take i).flatMap eTm.F ++ (eTm.F x ++ (l.drop i).flatMap eTm.F) → Own eTm 58 H' base (.slice (some ⟨g', 0, none⟩) (l.length + 1) cap') (l.take i ++ x :: l.drop i) := by
      intro g' cap' c0 H' h1 h3 h4 h5 h6 h7
      have hlen : (l.take i ++ x :: l.drop i).length = l.length + 1 := by simp; omega
      have := Own.ofRaw (c := eTm) (l := l.take i ++ x :: l.drop i) (base := base) (cap := cap') h1 h3 (by rw [hlen]; show c0.take ((l.length + 1) * 2) = _; rw [h7]; simp) h6 (by omega) h5
      rwa [hlen] at this
    refine wpSkip ?_
    refine hF7 _ _ ?_; clear hF7
    refine wpSeq fun F10 hF10 => ?_
    refine wpSeq fun F11 hF11 => ?_
    refine wpRegion ?_
    refine seqQ rfl rfl (yMove (v := .int _ _) rfl rfl) ?_
    refine seqQ rfl rfl (yMove (v := .int _ _) rfl rfl) ?_
    refine seqQ rfl rfl (yAdd rfl rfl rfl (by unfold In64; omega)) ?_
    refine seqQ rfl rfl (yMove (v := .slice _ _ _) rfl rfl) ?_
    refine seqQ rfl rfl (yCap rfl Try.underlying26 rfl) ?_
    refine seqQ rfl rfl (yGtr rfl rfl rfl) ?_
    refine seqNil ?_
    refine hF11 _ _ ?_; clear hF11
    -- if t31
    refine wpIf rfl (fun hroom => ?_) (fun hroom => ?_)
    · skip
      have hroom : cap < l.length + 1 := by omega
      have hkz : ((l.length : Int) + ((1 : Nat) : Int)) - (i : Int) = ((l.length + 1 - i : Nat) : Int) := by omega
      refine wpSeq fun F12 hF12 => ?_
      refine wpRegion ?_
      refine seqQ rfl rfl (yMove (v := .slice _ _ _) rfl rfl) ?_
      refine seqQ rfl rfl (yMove (v := .int _ _) rfl rfl) ?_
      refine seqQ rfl rfl (ySliceH rfl Try.underlying26 Try.sizeOf58 rfl rfl rfl (by omega)) ?_
      refine seqQ rfl rfl (yMove (v := .int _ _) rfl rfl) ?_
      refine seqQ rfl rfl (yMove (v := .int _ _) rfl rfl) ?_
      refine seqQ rfl rfl (yAdd rfl rfl rfl (by unfold In64; omega)) ?_
      refine seqQ rfl rfl (yMove (v := .int _ _) rfl rfl) ?_
      refine seqQ rfl rfl (ySub rfl rfl rfl (by unfold In64; omega)) ?_
      -- e slot 40: builtin append t34 t39 : [26, 3]
      refine seqE rfl rfl (stepAppZ (c := eTm) rfl Try.underlying26 Try.underlying3 elem_eTm rfl (by omega) rfl rfl hkz l1 (fun _ => ⟨_, rfl, fun j u hu => hcells j u (by rw [hflat, List.getElem?_append_left (List.getElem?_eq_some_iff.1 hu).1]; exact hu)⟩) (by omega) (by omega) (by omega) ?_)
      intro g' cap' c0 H2 hx2 hg2 hl2 hB2 hc0 ht0 hle hm2
      have hc0 : c0.length = cap' * 2 := hc0
      have ht0 : c0.take (i * 2) = (l.take i).flatMap eTm.F := ht0
      refine seqQ rfl rfl (yAssign (v := .slice _ _ _) rfl rfl) ?_
      refine seqNil ?_
      refine hF12 _ _ ?_; clear hF12
      refine wpSeq fun F13 hF13 => ?_
      refine wpRegion ?_
      refine seqQ rfl rfl (yMove (v := .slice _ _ _) rfl rfl) ?_
      refine seqQ rfl rfl (yMove (v := .int _ _) rfl rfl) ?_
      refine seqQ rfl rfl (ySliceN rfl Try.underlying26 Try.sizeOf58 rfl rfl rfl (by omega) (by omega)) ?_
      refine seqQ rfl rfl (yMove (v := .slice _ _ _) rfl rfl) ?_
      -- e slot 45: builtin copy t43 t44 : [26, 25]
      have hgg : gv ≠ g' := fun e => by have := hV.lt; omega
      refine seqE rfl rfl (stepCopy (sz := 2) (cs := eTm.F x) rfl Try.underlying26 Try.sizeOf58 rfl rfl hB2 (by rw [hxl, nmin _ _ (by omega)]) (hxc _ (hV.ext hx2)) (by omega) hxo ?_)
      intro H3 hB3 hK3
      have l3 : (c0.take (i * 2) ++ eTm.F x ++ c0.drop (i * 2 + (eTm.F x).length)).length = cap' * 2 := by simp only [List.length_append, List.length_take, List.length_drop]; omega
      have t3 : (c0.take (i * 2) ++ eTm.F x ++ c0.drop (i * 2 + (eTm.F x).length)).take ((i + 1) * 2) = (l.take i).flatMap eTm.F ++ eTm.F x := by
        rw [ht0, List.take_left' (by rw [List.length_append, l1, hxl]; omega)]
      generalize c0.take (i * 2) ++ eTm.F x ++ c0.drop (i * 2 + (eTm.F x).length) = c1 at hB3 l3 t3
      refine seqNil ?_
      refine hF13 _ _ ?_; clear hF13
      refine wpSeq fun F14 hF14 => ?_
      refine wpRegionD Try_mixed [.q, .q, .q, .q, .q, .q, .q, .q, .e] 8 [0, 0, 0, 6, 15, 0, 0, 96, 255] [] (by kernel_rfl) _ rfl [0, 1, 2, 3, 4, 5, 6, 7] rfl (by simp) ?_
      refine lexQ rfl rfl rfl rfl (fun H hM => (yMove (v := .slice _ _ _) rfl rfl)) ?_
      refine lexQ rfl rfl rfl rfl (fun H hM => (yMove (v := .int _ _) rfl rfl)) ?_
      refine lexQ rfl rfl rfl rfl (fun H hM => (yMove (v := .int _ _) rfl rfl)) ?_
      refine lexQ rfl rfl rfl rfl (fun H hM => (yAdd rfl rfl rfl (by unfold In64; omega))) ?_
      refine lexQ rfl rfl rfl rfl (fun H hM => (ySliceN rfl Try.underlying26 Try.sizeOf58 rfl rfl (show (i : Int) + ((1 : Nat) : Int) = ((i + 1 : Nat) : Int) by omega) (by omega) (by omega))) ?_
      refine lexQ rfl rfl rfl rfl (fun H hM => (yMove (v := .slice _ _ _) rfl rfl)) ?_
      refine lexQ rfl rfl rfl rfl (fun H hM => (yMove (v := .int _ _) rfl rfl)) ?_
      refine lexQ rfl rfl rfl rfl (fun H hM => (ySliceN rfl Try.underlying26 Try.sizeOf58 rfl rfl rfl (by omega) (by omega))) ?_
      -- tail
      refine lexNil0 rfl (fun hM => ?_)
      -- e slot 54: builtin copy t50 t53 : [26, 26]
      have hgg2 : g ≠ g' := fun e => by omega
      refine seqE rfl rfl (stepCopy (sz := 2) (cs := (l.drop i).flatMap eTm.F) rfl Try.underlying26 Try.sizeOf58 rfl rfl hB3 (by rw [l2, nmin2 _ _ (show i + (l.length + 1 - i) - (i + 1) ≤ l.length - i by omega)]; omega) (fun _ => ⟨_, rfl, fun j u hu => hK3.cell (hx2.cell (hdr j u hu)) (by simp [block_of_add, hgg2])⟩) (by omega) (hone _) ?_)
      intro H4 hB4 hK4
      refine seqNil ?_
      refine hF14 _ _ ?_; clear hF14
      refine wpSeq fun F15 hF15 => ?_
      refine wpRegion ?_
      refine seqQ rfl rfl (yMove (v := .slice _ _ _) rfl rfl) ?_
      refine seqQ rfl rfl (yAssign (v := .slice _ _ _) rfl rfl) ?_
      refine seqNil ?_
      refine hF15 _ _ ?_; clear hF15
      -- ret
      refine wpRet (fin1 (v := .slice _ _ _) rfl rfl ?_)
      rw [show i + (l.length + 1 - i) = l.length + 1 by omega]
      refine ⟨fin g' cap' _ H4 hB4 ?_ (by omega) hm2 (by omega) ?_, ?_, ?_⟩
      · simp only [List.length_append, List.length_take, List.length_drop]; omega
      · rw [t3, List.take_left' (by simp only [List.length_append]; omega), List.append_assoc]
      · exact (Ext.mine (Ext.mine hx2 hK3 (by simp; omega)) hK4 (by simp; omega)).keep _
      · intro b hb'
        simp [Value.ownBlock] at hb'
        exact .inr (by omega)
    · skip
      have hroom : l.length + 1 ≤ cap := by omega
      refine wpSkip ?_
      refine hF10 _ _ ?_; clear hF10
      refine wpSeq fun F16 hF16 => ?_
      refine wpRegion ?_
      refine seqQ rfl rfl (yMove (v := .slice _ _ _) rfl rfl) ?_
      refine seqQ rfl rfl (yMove (v := .int _ _) rfl rfl) ?_
      refine seqQ rfl rfl (yMove (v := .int _ _) rfl rfl) ?_
      refine seqQ rfl rfl (yAdd rfl rfl rfl (by unfold In64; omega)) ?_
      refine seqQ rfl rfl (ySliceH rfl Try.underlying26 Try.sizeOf58 rfl rfl (show (l.length : Int) + ((1 : Nat) : Int) = ((l.length + 1 : Nat) : Int) by omega) hroom) ?_
      refine seqQ rfl rfl (yAssign (v := .slice _ _ _) rfl rfl) ?_
      refine seqNil ?_
      refine hF16 _ _ ?_; clear hF16
      refine wpSeq fun F17 hF17 => ?_
      refine wpSeq fun F18 hF18 => ?_
      refine wpRegion ?_
      refine seqQ rfl rfl (yMove (v := .slice _ _ _) rfl rfl) ?_
      refine seqQ rfl rfl (yMove (v := .slice _ _ _) rfl rfl) ?_
      refine seqQ rfl rfl (yMove (v := .int _ _) rfl rfl) ?_
      refine seqQ rfl rfl (yMove (v := .int _ _) rfl rfl) ?_
      refine seqQ rfl rfl (yAdd rfl rfl rfl (by unfold In64; omega)) ?_
      refine seqQ rfl rfl (ySliceN rfl Try.underlying26 Try.sizeOf58 rfl rfl (show (i : Int) + ((1 : Nat) : Int) = ((i + 1 : Nat) : Int) by omega) (by omega) (by omega)) ?_
      -- e slot 67: call F38<slices.overlaps[farandole/timer.Timer]> t61 t66
      refine seqE rfl rfl (stepY (yCallX rfl rfl (fun w hw => by rw [add_head]; exact overlaps_tm hV hB (Ne.symm hgv) (List.ne_nil_of_length_pos (by omega)) w hw)) ?_)
      refine seqQ rfl rfl (yNot rfl rfl) ?_
      refine seqNil ?_
      refine hF18 _ _ ?_; clear hF18
      -- if t68
      refine wpT rfl ?_
      refine wpSeq fun F19 hF19 => ?_
      refine wpRegionD Try_mixed [.q, .q, .q, .q, .q, .q, .q, .q, .e] 8 [0, 0, 0, 6, 15, 0, 0, 96, 255] [] (by kernel_rfl) _ rfl [0, 1, 2, 3, 4, 5, 6, 7] rfl (by simp) ?_
      refine lexQ rfl rfl rfl rfl (fun H hM => (yMove (v := .slice _ _ _) rfl rfl)) ?_
      refine lexQ rfl rfl rfl rfl (fun H hM => (yMove (v := .int _ _) rfl rfl)) ?_
      refine lexQ rfl rfl rfl rfl (fun H hM => (yMove (v := .int _ _) rfl rfl)) ?_
      refine lexQ rfl rfl rfl rfl (fun H hM => (yAdd rfl rfl rfl (by unfold In64; omega))) ?_
      refine lexQ rfl rfl rfl rfl (fun H hM => (ySliceN rfl Try.underlying26 Try.sizeOf58 rfl rfl (show (i : Int) + ((1 : Nat) : Int) = ((i + 1 : Nat) : Int) by omega) (by omega) (by omega))) ?_
      refine lexQ rfl rfl rfl rfl (fun H hM => (yMove (v := .slice _ _ _) rfl rfl)) ?_
      refine lexQ rfl rfl rfl rfl (fun H hM => (yMove (v := .int _ _) rfl rfl)) ?_
      refine lexQ rfl rfl rfl rfl (fun H hM => (ySliceN rfl Try.underlying26 Try.sizeOf58 rfl rfl rfl (by omega) (by omega))) ?_
      -- tail
      refine lexNil0 rfl (fun hM => ?_)
      -- e slot 77: builtin copy t73 t76 : [26, 26]
      refine seqE rfl rfl (stepCopy (sz := 2) (cs := (l.drop i).flatMap eTm.F) rfl Try.underlying26 Try.sizeOf58 rfl rfl hB (by rw [l2, nmin2 _ _ (show l.length + 1 - (i + 1) ≤ l.length + 1 - i by omega)]; omega) (fun _ => ⟨_, rfl, hdr⟩) (by omega) (hone _) ?_)
      intro H3 hB3 hK3
      have l3 : (cur.take ((i + 1) * 2) ++ (l.drop i).flatMap eTm.F ++ cur.drop ((i + 1) * 2 + ((l.drop i).flatMap eTm.F).length)).length = cap * 2 := by simp only [List.length_append, List.length_take, List.length_drop]; omega
      have t3 : (cur.take ((i + 1) * 2) ++ (l.drop i).flatMap eTm.F ++ cur.drop ((i + 1) * 2 + ((l.drop i).flatMap eTm.F).length)).take (i * 2) = (l.take i).flatMap eTm.F := by
        rw [List.append_assoc, List.take_append_of_le_length (by rw [List.length_take]; omega), List.take_take, Nat.min_eq_left (by omega)]
        have := congrArg (List.take (i * 2)) htk
        rw [List.take_take, Nat.min_eq_left (by omega), hflat, List.take_left' l1] at this
        exact this
      have t4 : ((cur.take ((i + 1) * 2) ++ (l.drop i).flatMap eTm.F ++ cur.drop ((i + 1) * 2 + ((l.drop i).flatMap eTm.F).length)).drop ((i + 1) * 2)).take ((l.length - i) * 2) = (l.drop i).flatMap eTm.F := by
        rw [List.append_assoc, List.drop_left' (by rw [List.length_take]; omega), List.take_left' l2]
      generalize cur.take ((i + 1) * 2) ++ (l.drop i).flatMap eTm.F ++ cur.drop ((i + 1) * 2 + ((l.drop i).flatMap eTm.F).length) = c1 at hB3 l3 t3 t4
      refine seqNil ?_
      refine hF19 _ _ ?_; clear hF19
      refine wpSeq fun F20 hF20 => ?_
      refine wpRegion ?_
      refine seqQ rfl rfl (yMove (v := .slice _ _ _) rfl rfl) ?_
      refine seqQ rfl rfl (yMove (v := .int _ _) rfl rfl) ?_
      refine seqQ rfl rfl (ySliceN rfl Try.underlying26 Try.sizeOf58 rfl rfl rfl (by omega) (by omega)) ?_
      refine seqQ rfl rfl (yMove (v := .slice _ _ _) rfl rfl) ?_
      -- e slot 82: builtin copy t80 t81 : [26, 25]
      refine seqE rfl rfl (stepCopy (sz := 2) (cs := eTm.F x) rfl Try.underlying26 Try.sizeOf58 rfl rfl hB3 (by rw [hxl, nmin _ _ (by omega)]) (hxc _ (hV.keep hK3 (by simp; exact Ne.symm hgv))) (by omega) hxo ?_)
      intro H4 hB4 hK4
      refine seqNil ?_
      refine hF20 _ _ ?_; clear hF20
      refine wpSeq fun F21 hF21 => ?_
      refine wpRegion ?_
      refine seqQ rfl rfl (yMove (v := .slice _ _ _) rfl rfl) ?_
      refine seqQ rfl rfl (yAssign (v := .slice _ _ _) rfl rfl) ?_
      refine seqNil ?_
      refine hF21 _ _ ?_; clear hF21
      -- ret
      refine wpRet (fin1 (v := .slice _ _ _) rfl rfl ?_)
      refine ⟨fin g cap _ H4 hB4 ?_ hroom hcm hp1 ?_, ?_, ?_⟩
      · simp only [List.length_append, List.length_take, List.length_drop]; omega
      · rw [t3, hxl, show i * 2 + 2 = (i + 1) * 2 by omega, List.append_assoc, List.take_append, List.take_append, l1, hxl, List.take_of_length_le (l := (l.take i).flatMap eTm.F) (by rw [l1]; omega), List.take_of_length_le (l := eTm.F x) (by rw [hxl]; omega), show (l.length + 1) * 2 - i * 2 - 2 = (l.length - i) * 2 by omega, t4]
      · exact (hK3.trans hK4).mono (by simp [Value.ownBlock])
      · intro b hb'
        exact .inl hb'
end Go.Proofs.Ytbicgjleomkhdaa
