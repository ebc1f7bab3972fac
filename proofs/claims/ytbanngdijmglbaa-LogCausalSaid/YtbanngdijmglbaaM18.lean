/- The document's logs: merged. -/
import Derived.Test.YtbanngdijmglbaaM16
namespace Go.Proofs.Ytbanngdijmglbaa
open Go.RowKit

set_option maxRecDepth 100000 in
theorem ready_c (c : List Int) (CA : Option Addr) (cc : Nat) (r : Nat) (t : List Nat) (TA : Option Addr) (tn tc : Nat) (H : Heap) (hc : Rd eInt H CA c) (ht : Rd eInt H TA (tI t)) (htn : tn = t.length) (hl : c.length ≤ t.length) (hs : t.length ≤ 100000) :
    CallsH Try.prog 53 [.slice CA c.length cc, .int .i64 r, .slice TA tn tc] H fun v H' => v = .bool (decide (∀ k, k < c.length → k ≠ r → c.getD k 0 ≤ (t.getD k 0 : Nat))) ∧ H' = H := by
  subst htn
  refine callsH_of Try.func53 rfl Try.ntmps53 (Nat.le_of_ble_eq_true rfl) ?_
  refine wpSeq fun F1 hF1 => ?_
  refine wpRegion ?_
  refine seqQ rfl rfl (yAssign (v := .bool _) rfl rfl) ?_
  refine seqNil ?_
  refine hF1 _ _ ?_; clear hF1
  refine wpSeq fun F2 hF2 => ?_
  refine wpSeq fun F3 hF3 => ?_
  refine wpRegion ?_
  refine seqQ rfl rfl (yAssign (v := .int _ _) rfl rfl) ?_
  refine seqNil ?_
  refine hF3 _ _ ?_; clear hF3
  -- loop
  refine wpBlock ?_
  refine wpLoopS [6, 7, 8, 9, 10, 11, 12, 13, 14, 15, 16, 17, 18, 19, 20, 21, 22, 23, 24, 25, 26, 27] (fun k : Nat => [(7, .int .i64 k)]) (fun k H' => k ≤ c.length ∧ H' = H ∧ ∀ j, j < k → j ≠ r → c.getD j 0 ≤ (t.getD j 0 : Nat)) (fun k => c.length - k) 0 ⟨rfl, trivial⟩ ⟨Nat.zero_le _, rfl, fun j h => absurd h (by simp)⟩ ?_
  rintro k J H' ⟨hk, rfl, hle⟩
  refine wpSeq fun F4 hF4 => ?_
  refine wpSeq fun F5 hF5 => ?_
  refine wpRegion ?_
  refine seqQ rfl rfl (yMove (v := .int _ _) rfl rfl) ?_
  refine seqQ rfl rfl (yMove (v := .slice _ _ _) rfl rfl) ?_
  refine seqQ rfl rfl (yLen rfl Try.underlying28 rfl) ?_
  refine seqQ rfl rfl (yLss rfl rfl rfl) ?_
  refine seqNil ?_
  refine hF5 _ _ ?_; clear hF5
  -- if t11
  refine wpIf rfl (fun hlt => ?_) (fun hlt => ?_)
  · skip
    have hkl : k < c.length := by omega
    have hkt : k < (tI t).length := by rw [tI_len]; omega
    obtain ⟨pc, epc, hpc⟩ := hc.at1 hkl
    obtain ⟨qk, eqk, hqk⟩ := ht.at1 hkt
    rw [tI_get] at hqk
    have hgk : c.getD k 0 = c[k] := by rw [List.getD_eq_getElem?_getD, List.getElem?_eq_getElem hkl]; rfl
    refine wpSkip ?_
    refine hF4 _ _ ?_; clear hF4
    refine wpSeq fun F6 hF6 => ?_
    refine wpBlock ?_
    refine wpSeq fun F7 hF7 => ?_
    refine wpRegionD Try_mixed [.q, .q, .q, .q, .q, .q, .q, .q, .q, .q, .q, .q, .q, .q] 12 [0, 0, 3, 7, 15, 15, 63, 127, 15, 15, 783, 1807, 4095, 8191] [] (by kernel_rfl) _ rfl [0, 1, 2, 3, 4, 5, 6, 7, 8, 9, 10, 11] rfl (by simp) ?_
    refine lexQ rfl rfl rfl rfl (fun H hM => (yMove (v := .int _ _) rfl rfl)) ?_
    refine lexQ rfl rfl rfl rfl (fun H hM => (yMove (v := .int _ _) rfl rfl)) ?_
    refine lexQ rfl rfl rfl rfl (fun H hM => (yNeq rfl rfl rfl)) ?_
    -- guard t17
    by_cases hne : k = r
    · skip
      rw [show (!decide ((k : Int) = (r : Int))) = false by simp; omega]
      refine lexQ rfl rfl rfl rfl (fun H hM => (yMove (v := .bool false) rfl rfl)) ?_
      refine lexU rfl rfl rfl ?_
      refine lexU rfl rfl rfl ?_
      refine lexU rfl rfl rfl ?_
      refine lexU rfl rfl rfl ?_
      refine lexU rfl rfl rfl ?_
      refine lexU rfl rfl rfl ?_
      refine lexU rfl rfl rfl ?_
      refine lexU rfl rfl rfl ?_
      -- tail
      refine lexNil0 rfl (fun hM => ?_)
      refine seqU rfl rfl ?_
      refine seqQ rfl rfl (yPickF (v := .bool _) rfl rfl rfl) ?_
      refine seqNil ?_
      refine hF7 _ _ ?_; clear hF7
      -- if t27
      refine wpF rfl ?_
      refine wpSkip ?_
      refine hF6 _ _ ?_; clear hF6
      refine wpRegion ?_
      refine seqQ rfl rfl (yMove (v := .int _ _) rfl rfl) ?_
      refine seqQ rfl rfl (yAdd rfl rfl rfl (by unfold In64; omega)) ?_
      refine seqQ rfl rfl (yAssign (v := .int _ _) rfl rfl) ?_
      refine seqNil ?_
      -- end loop
      exact loopEnd (k + 1) (by repeat (first | (with_reducible exact Agree.refl _ _) | refine Agree.upd ?_ rfl | refine Agree.over ?_ rfl)) (by omega) ⟨rfl, trivial⟩ ⟨hkl, rfl, fun j hj hjr => hle j (by omega) hjr⟩
    · skip
      rw [show (!decide ((k : Int) = (r : Int))) = true by simp; omega]
      refine lexQ rfl rfl rfl rfl (fun H hM => (yMove (v := .bool true) rfl rfl)) ?_
      refine lexQ rfl rfl rfl rfl (fun H hM => (yMove (v := .slice _ _ _) rfl rfl)) ?_
      refine lexQ rfl rfl rfl rfl (fun H hM => (yMove (v := .int _ _) rfl rfl)) ?_
      refine lexQ rfl rfl rfl rfl (fun H hM => (yIdxP1 rfl Try.underlying28 Try.sizeOf3 rfl rfl epc rfl hkl)) ?_
      refine lexQ rfl rfl rfl rfl (fun H hM => (yLoad rfl Try.underlying3 rfl rfl (hM.ext.cell hpc))) ?_
      refine lexQ rfl rfl rfl rfl (fun H hM => (yMove (v := .slice _ _ _) rfl rfl)) ?_
      refine lexQ rfl rfl rfl rfl (fun H hM => (yMove (v := .int _ _) rfl rfl)) ?_
      refine lexQ rfl rfl rfl rfl (fun H hM => (yIdxP1 rfl Try.underlying27 Try.sizeOf3 rfl rfl eqk rfl (show k < t.length by omega))) ?_
      refine lexQ rfl rfl rfl rfl (fun H hM => (yLoad rfl Try.underlying3 rfl rfl (hM.ext.cell hqk))) ?_
      -- tail
      refine lexNil0 rfl (fun hM => ?_)
      refine seqQ rfl rfl (yGtr rfl rfl rfl) ?_
      refine seqQ rfl rfl (yPickT (v := .bool _) rfl rfl rfl) ?_
      refine seqNil ?_
      refine hF7 _ _ ?_; clear hF7
      -- if t27
      refine wpIf rfl (fun hgt => ?_) (fun hgt => ?_)
      · skip
        refine wpSeq fun F8 hF8 => ?_
        refine wpRegion ?_
        refine seqQ rfl rfl (yAssign (v := .bool _) rfl rfl) ?_
        refine seqNil ?_
        refine hF8 _ _ ?_; clear hF8
        -- ret
        refine wpRet (fin1 (v := .bool _) rfl rfl ?_)
        exact ⟨by rw [decide_eq_false (fun h => by have := h k hkl hne; omega)], rfl⟩
      · skip
        refine wpSkip ?_
        refine hF6 _ _ ?_; clear hF6
        refine wpRegion ?_
        refine seqQ rfl rfl (yMove (v := .int _ _) rfl rfl) ?_
        refine seqQ rfl rfl (yAdd rfl rfl rfl (by unfold In64; omega)) ?_
        refine seqQ rfl rfl (yAssign (v := .int _ _) rfl rfl) ?_
        refine seqNil ?_
        -- end loop
        exact loopEnd (k + 1) (by repeat (first | (with_reducible exact Agree.refl _ _) | refine Agree.upd ?_ rfl | refine Agree.over ?_ rfl)) (by omega) ⟨rfl, trivial⟩ ⟨hkl, rfl, fun j hj hjr => (by
          by_cases e : j = k
          · subst e; rw [hgk]; omega
          · exact hle j (by omega) hjr)⟩
  · skip
    obtain rfl : k = c.length := by omega
    refine wpExit ?_
    refine hF2 _ _ ?_; clear hF2
    refine wpSeq fun F9 hF9 => ?_
    refine wpRegion ?_
    refine seqQ rfl rfl (yAssign (v := .bool _) rfl rfl) ?_
    refine seqNil ?_
    refine hF9 _ _ ?_; clear hF9
    -- ret
    refine wpRet (fin1 (v := .bool _) rfl rfl ?_)
    exact ⟨by rw [decide_eq_true hle], rfl⟩
def remL (ls : List (List Ent)) (t : List Nat) : Nat := ((List.range ls.length).map fun r => (ls.getD r []).length - t.getD r 0).sum
set_option maxRecDepth 100000 in
theorem sum_range_zero (f : Nat → Nat) : ∀ n, ((List.range n).map f).sum = 0 ↔ ∀ r, r < n → f r = 0
  | 0 => by simp
  | n + 1 => by
    rw [List.range_succ, List.map_append, List.sum_append]
    simp only [List.map_cons, List.map_nil, List.sum_cons, List.sum_nil]
    constructor
    · intro h r hr
      by_cases e : r = n
      · subst e; omega
      · exact (sum_range_zero f n).1 (by omega) r (by omega)
    · intro h
      have := (sum_range_zero f n).2 (fun r hr => h r (by omega))
      have := h n (by omega)
      omega
set_option maxRecDepth 100000 in
theorem sum_range_one {f g : Nat → Nat} {r : Nat} : ∀ n, r < n → f r = g r + 1 → (∀ j, j ≠ r → f j = g j) → ((List.range n).map f).sum = ((List.range n).map g).sum + 1
  | 0, h, _, _ => absurd h (by omega)
  | n + 1, h, h1, h2 => by
    rw [List.range_succ, List.map_append, List.sum_append, List.map_append, List.sum_append]
    simp only [List.map_cons, List.map_nil, List.sum_cons, List.sum_nil]
    by_cases e : r = n
    · subst e
      have : (List.range r).map f = (List.range r).map g := List.map_congr_left fun j hj => h2 j (by have := List.mem_range.1 hj; omega)
      rw [this]
      omega
    · have := sum_range_one n (by omega) h1 h2
      have := h2 n (fun e2 => e e2.symm)
      omega
set_option maxRecDepth 100000 in
theorem rem_set {ls : List (List Ent)} {t : List Nat} {r : Nat} (hr : r < ls.length) (hl : t.length = ls.length) (h : t.getD r 0 < (ls.getD r []).length) : remL ls t = remL ls (t.set r (t.getD r 0 + 1)) + 1 := by
  unfold remL
  refine sum_range_one _ hr ?_ ?_
  · rw [show (t.set r (t.getD r 0 + 1)).getD r 0 = t.getD r 0 + 1 from by rw [List.getD_eq_getElem?_getD, List.getElem?_set_self (by omega)]; rfl]
    omega
  · intro j hj
    rw [show (t.set r (t.getD r 0 + 1)).getD j 0 = t.getD j 0 from by rw [List.getD_eq_getElem?_getD, List.getElem?_set_ne (fun e => hj e.symm), ← List.getD_eq_getElem?_getD]]
set_option maxRecDepth 100000 in
theorem range_getD {α β : Type} (f : α → β) (d : α) : ∀ l : List α, (List.range l.length).map (fun r => f (l.getD r d)) = l.map f
  | [] => rfl
  | x :: l => by
    rw [List.length_cons, List.range_succ_eq_map, List.map_cons, List.map_map, List.map_cons, ← range_getD f d l]
    rfl
set_option maxRecDepth 100000 in
theorem rem_init (ls : List (List Ent)) : remL ls (List.replicate ls.length 0) = total ls := by
  unfold remL total
  rw [← range_getD List.length [] ls]
  congr 1
  refine List.map_congr_left fun r _ => ?_
  rw [show (List.replicate ls.length 0).getD r 0 = 0 from by rw [List.getD_eq_getElem?_getD, List.getElem?_replicate]; split <;> rfl]
  rfl
/-- The least role that is ready among those from n - j on. -/
def nxV : Option Nat → Int
  | some r => r
  | none => -1
def Least (ls : List (List Ent)) (t : List Nat) (a : Nat) (nx : Option Nat) : Prop := match nx with
  | none => ∀ r, a ≤ r → r < ls.length → canB ls t r = false
  | some r => (a ≤ r ∧ r < ls.length) ∧ canB ls t r = true ∧ ∀ j, a ≤ j → j < r → canB ls t j = false
set_option maxRecDepth 100000 in
theorem Least.no {ls : List (List Ent)} {t : List Nat} {a : Nat} {nx : Option Nat} (h : Least ls t (a + 1) nx) (hc : canB ls t a = false) : Least ls t a nx := by
  cases nx with
  | none =>
    intro r h1 h2
    by_cases e : r = a
    · rw [e]; exact hc
    · exact h r (by omega) h2
  | some x =>
    obtain ⟨h1, h2, h3⟩ := h
    exact ⟨⟨by omega, h1.2⟩, h2, fun j h4 h5 => by
      by_cases e : j = a
      · rw [e]; exact hc
      · exact h3 j (by omega) h5⟩
set_option maxRecDepth 100000 in
theorem Least.yes {ls : List (List Ent)} {t : List Nat} {a : Nat} (ha : a < ls.length) (hc : canB ls t a = true) : Least ls t a (some a) := ⟨⟨Nat.le_refl _, ha⟩, hc, fun j h1 h2 => absurd h2 (by omega)⟩
set_option maxRecDepth 100000 in
theorem Least.next {ls : List (List Ent)} {t : List Nat} {nx : Option Nat} (h : Least ls t 0 nx) : nextR ls t = nx := by
  cases nx with
  | none => exact next_none fun r hr => h r (Nat.zero_le _) hr
  | some r => exact next_some h.1.2 h.2.1 fun j hj => h.2.2 j (Nat.zero_le _) hj
set_option maxRecDepth 100000 in
theorem rmerge_c (ls : List LH) (B : Option Addr) (cb : Nat) (H : Heap) (h : LogsRd H B ls) (hs : LogsSm ls) :
    CallsH Try.prog 25 [.slice B ls.length cb] H fun v H' => ∃ O oc, v = .tuple #[.slice O (mergeL (entsL ls)).2.length oc, .int .i64 (mergeL (entsL ls)).1] ∧ Own ePl 63 H' H.size (.slice O (mergeL (entsL ls)).2.length oc) (mergeL (entsL ls)).2 ∧ Ext H H' := by
  have s1 := hs.1
  have he := entsL_len ls
  refine callsH_of Try.func25 rfl Try.ntmps25 (Nat.le_of_ble_eq_true rfl) ?_
  refine wpSeq fun F1 hF1 => ?_
  refine wpRegion ?_
  refine seqQ rfl rfl (yAssign (v := .slice _ _ _) rfl rfl) ?_
  refine seqQ rfl rfl (yAssign (v := .int _ _) rfl rfl) ?_
  refine seqNil ?_
  refine hF1 _ _ ?_; clear hF1
  refine wpSeq fun F2 hF2 => ?_
  refine wpSeq fun F3 hF3 => ?_
  refine wpRegion ?_
  refine seqQ rfl rfl (yMove (v := .slice _ _ _) rfl rfl) ?_
  -- e slot 10: call F52<farandole/farandoleref57.valid> t9
  refine seqE rfl rfl (stepCall rfl Try.call52 rfl ?_)
  refine (rvalidLogs_c ls B cb H h hs).mono ?_
  rintro v H1 ⟨rfl, hE⟩
  have z1 := hE.size
  refine seqQ rfl rfl (yNot rfl rfl) ?_
  refine seqNil ?_
  refine hF3 _ _ ?_; clear hF3
  -- if t11
  refine wpCond rfl (fun hV => ?_) (fun hV => ?_)
  · skip
    have hV : ¬ ValidLogs (entsL ls) := by simpa using hV
    refine wpSeq fun F4 hF4 => ?_
    refine wpRegion ?_
    refine seqQ rfl rfl (yAssign (v := .slice _ _ _) rfl rfl) ?_
    refine seqQ rfl rfl (yAssign (v := .int _ _) rfl rfl) ?_
    refine seqNil ?_
    refine hF4 _ _ ?_; clear hF4
    -- ret
    refine wpRet (fin2 (v := .slice _ _ _) (v' := .int _ _) rfl rfl rfl ?_)
    rw [mergeL_bad hV]
    exact ⟨none, 0, rfl, Own.nil _ _, hE⟩
  · skip
    have hV : ValidLogs (entsL ls) := by simpa using hV
    have hn6 : 1 ≤ ls.length ∧ ls.length ≤ 6 := by have := hV.1; omega
    have hlen : ∀ L ∈ ls, L.l.length ≤ 1000 := fun L hL => by
      obtain ⟨r, hr, rfl⟩ := List.getElem_of_mem hL
      have := (hV.2 r (by omega)).2.2.1
      rw [entsL_get hr, List.length_map] at this
      exact this
    have hclk : ∀ (r i : Nat) (hr : r < ls.length) (hi : i < ls[r].l.length), ls[r].l[i].clk.length = ls.length := fun r i hr hi => by
      have := ((hV.2 r (by omega)).2.2.2 i (by rw [entsL_get hr, List.length_map]; exact hi)).2.2.1
      rw [entsL_get hr, getD_ent _ hi] at this
      change ((ls[r].l[i].clk.length : Nat) : Int) = _ at this
      omega
    have htot : total (entsL ls) ≤ 6000 := by
      rw [total_lens]
      have := lens_bound hlen
      have : ls.length * 1000 ≤ 6 * 1000 := Nat.mul_le_mul_right _ hn6.2
      omega
    refine wpSkip ?_
    refine hF2 _ _ ?_; clear hF2
    refine wpSeq fun F5 hF5 => ?_
    refine wpRegion ?_
    refine seqQ rfl rfl (yMove (v := .slice _ _ _) rfl rfl) ?_
    refine seqQ rfl rfl (yLen rfl Try.underlying33 rfl) ?_
    -- e slot 14: makeSlice T27 t13 t13
    refine seqE rfl rfl (stepMake (c := eInt) (z := 0) rfl Try.underlying27 elem_eInt rfl (by omega) rfl rfl rfl (by omega) ?_)
    intro g H2 hx2 hg2 ot
    refine seqQ rfl rfl (yAssign (v := .slice _ _ _) rfl rfl) ?_
    refine seqNil ?_
    refine hF5 _ _ ?_; clear hF5
    refine wpSeq fun F6 hF6 => ?_
    refine wpRegion ?_
    refine seqQ rfl rfl (yAssign (v := .slice _ _ _) rfl rfl) ?_
    refine seqNil ?_
    refine hF6 _ _ ?_; clear hF6
    -- loop
    have zk : g < H2.size := (ot.lt g rfl).2
    have z12 := hx2.size
    refine wpBlock ?_
    refine wpLoopS [2, 3, 5, 6, 7, 8, 15, 16, 17, 18, 19, 20, 21, 22, 23, 24, 25, 26, 27, 28, 29, 30, 31, 32, 33, 34, 35, 36, 37, 38, 39, 40, 41, 42, 43, 44, 45, 46, 47, 48, 49, 50, 51, 52, 53, 54, 55, 56, 57, 58, 59, 60, 61, 62, 63, 64, 65, 66, 67, 68, 69] (fun x : Nat × List Nat × List (Nat × Nat) × Value => [(5, x.2.2.2)]) (fun x H' => x.1 ≤ total (entsL ls) ∧ Ext H H' ∧ H2.size ≤ H'.size ∧ x.2.1.length = ls.length ∧ (∀ r, x.2.1.getD r 0 ≤ ((entsL ls).getD r []).length) ∧ x.2.2.1.length = total (entsL ls) - x.1 ∧ remL (entsL ls) x.2.1 = x.1 ∧ mergeGo (entsL ls) x.1 x.2.1 x.2.2.1 = mergeGo (entsL ls) (total (entsL ls)) (List.replicate (entsL ls).length 0) [] ∧ Own eInt 3 H' H1.size (.slice (some ⟨g, 0, none⟩) ls.length ls.length) (tI x.2.1) ∧ Own ePl 63 H' H2.size x.2.2.2 x.2.2.1) (fun x => x.1) (total (entsL ls), List.replicate ls.length 0, [], .slice none 0 0) ⟨rfl, trivial⟩ ⟨Nat.le_refl _, hE.trans hx2, Nat.le_refl _, by simp, fun r => (by simp only [List.getD_eq_getElem?_getD, List.getElem?_replicate]; split <;> simp), by simp, by rw [← he]; exact rem_init _, by rw [he], by rw [tI_zero]; exact ot, Own.nil _ _⟩ ?_
    clear ot
    rintro ⟨n, t, o, out⟩ J2 Hn ⟨hn, hEn, hzn, htl, htb, hol, hrem, hgo, ot, oo⟩
    dsimp only at hn htl htb hol hrem hgo ot oo
    obtain ⟨O, oc, rfl, -⟩ := oo.form
    have zn := hEn.size
    have rt := (Own.rd ot).2
    refine wpBlock ?_
    refine wpSeq fun F7 hF7 => ?_
    refine wpRegion ?_
    refine seqQ rfl rfl (yAssign (v := .int _ _) rfl rfl) ?_
    refine seqNil ?_
    refine hF7 _ _ ?_; clear hF7
    refine wpSeq fun F8 hF8 => ?_
    refine wpRegion ?_
    refine seqQ rfl rfl (yAssign (v := .bool _) rfl rfl) ?_
    refine seqNil ?_
    refine hF8 _ _ ?_; clear hF8
    refine wpSeq fun F9 hF9 => ?_
    refine wpSeq fun F10 hF10 => ?_
    refine wpRegion ?_
    refine seqQ rfl rfl (yMove (v := .slice _ _ _) rfl rfl) ?_
    refine seqQ rfl rfl (yLen rfl Try.underlying33 rfl) ?_
    refine seqQ rfl rfl (ySubE rfl rfl rfl (by unfold In64; omega) (show (ls.length : Int) - 1 = (ls.length : Int) - 1 - ((0 : Nat) : Int) by omega)) ?_
    refine seqQ rfl rfl (yAssign (v := .int _ _) rfl rfl) ?_
    refine seqNil ?_
    refine hF10 _ _ ?_; clear hF10
    -- loop
    refine wpBlock ?_
    refine wpLoopS [6, 7, 8, 18, 19, 20, 21, 22, 23, 24, 25, 26, 27, 28, 29, 30, 31, 32, 33, 34, 35, 36, 37, 38, 39, 40, 41, 42, 43, 44, 45, 46] (fun x : Nat × Option Nat × Bool => [(8, .int .i64 ((ls.length : Int) - 1 - x.1)), (6, .int .i64 (nxV x.2.1)), (7, .bool x.2.2)]) (fun x H' => x.1 ≤ ls.length ∧ H' = Hn ∧ Least (entsL ls) t (ls.length - x.1) x.2.1 ∧ (x.2.2 = true ↔ ∃ r, ls.length - x.1 ≤ r ∧ r < ls.length ∧ t.getD r 0 ≠ ((entsL ls).getD r []).length)) (fun x => ls.length - x.1) (0, none, false) ⟨rfl, rfl, rfl, trivial⟩ ⟨Nat.zero_le _, rfl, fun r h1 h2 => absurd h2 (by rw [he]; omega), by simp; intro r h1 h2; omega⟩ ?_
    rintro ⟨j, nx, b⟩ J3 Hr ⟨hj, e, hlst, hleft⟩
    obtain rfl := e.symm
    clear e
    dsimp only at hj hlst hleft
    refine wpSeq fun F11 hF11 => ?_
    refine wpSeq fun F12 hF12 => ?_
    refine wpRegion ?_
    refine seqQ rfl rfl (yMove (v := .int _ _) rfl rfl) ?_
    refine seqQ rfl rfl (yGeq rfl rfl rfl) ?_
    refine seqNil ?_
    refine hF12 _ _ ?_; clear hF12
    -- if t19
    refine wpIf rfl (fun hlt => ?_) (fun hlt => ?_)
    · skip
      obtain ⟨r, hrj⟩ : ∃ r, r + j + 1 = ls.length := ⟨ls.length - 1 - j, by dsimp only at hlt; omega⟩
      have er : (ls.length : Int) - 1 - (j : Int) = (r : Int) := by omega
      dsimp only
      rw [er]
      have ej : ls.length - j = r + 1 := by omega
      have ej1 : ls.length - (j + 1) = r := by omega
      rw [ej] at hlst hleft
      have hrl : r < ls.length := by omega
      obtain ⟨p, ep, hp⟩ := (h.1.ext hEn).at1 hrl
      have hL := (h.2 _ (List.getElem_mem hrl)).ext hEn
      have hg := entsL_get hrl
      have hck := fun i hi => hclk r i hrl hi
      have hca := fun i hi => clk_at (i := i) hrl hi
      have hls := hlen _ (List.getElem_mem hrl)
      have hbr := htb r
      have hrt : r < (tI t).length := by rw [tI_len]; omega
      obtain ⟨q, eq, hq⟩ := rt.at1 hrt
      rw [tI_get] at hq
      rw [hg, List.length_map] at hbr
      have hcb : canB (entsL ls) t r = decide (t.getD r 0 ≠ ls[r].l.length ∧ ∀ k, k < (clkAt (entsL ls) r (t.getD r 0)).length → k ≠ r → (clkAt (entsL ls) r (t.getD r 0)).getD k 0 ≤ (t.getD k 0 : Nat)) := by
        unfold canB
        rw [hg, List.length_map]
      have hlf : ∀ b' : Bool, (b' = true ↔ (t.getD r 0 ≠ ls[r].l.length ∨ b = true)) → (b' = true ↔ ∃ r', ls.length - (j + 1) ≤ r' ∧ r' < ls.length ∧ t.getD r' 0 ≠ ((entsL ls).getD r' []).length) := fun b' hb => by
        rw [hb, hleft, ej1]
        constructor
        · rintro (h1 | ⟨r', h1, h2, h3⟩)
          · exact ⟨r, Nat.le_refl _, hrl, by rw [hg, List.length_map]; exact h1⟩
          · exact ⟨r', by omega, h2, h3⟩
        · rintro ⟨r', h1, h2, h3⟩
          by_cases e : r' = r
          · subst e; rw [hg, List.length_map] at h3; exact .inl h3
          · exact .inr ⟨r', by omega, h2, h3⟩
      generalize ls[r] = L at *
      obtain ⟨i, hi⟩ : ∃ i, i = t.getD r 0 := ⟨_, rfl⟩
      rw [← hi] at hq hbr hcb hlf
      refine wpSkip ?_
      refine hF11 _ _ ?_; clear hF11
      refine wpSeq fun F13 hF13 => ?_
      refine wpBlock ?_
      refine wpSeq fun F14 hF14 => ?_
      refine wpSeq fun F15 hF15 => ?_
      refine wpRegionD Try_mixed [.q, .q, .q, .q, .q, .q, .q, .q, .q, .q] 9 [0, 0, 3, 7, 0, 0, 48, 112, 240, 511] [] (by kernel_rfl) _ rfl [0, 1, 2, 3, 4, 5, 6, 7, 8] rfl (by simp) ?_
      refine lexQ rfl rfl rfl rfl (fun H hM => (yMove (v := .slice _ _ _) rfl rfl)) ?_
      refine lexQ rfl rfl rfl rfl (fun H hM => (yMove (v := .int _ _) rfl rfl)) ?_
      refine lexQ rfl rfl rfl rfl (fun H hM => (yIdxP1 rfl Try.underlying27 Try.sizeOf3 rfl rfl eq rfl hrl)) ?_
      refine lexQ rfl rfl rfl rfl (fun H hM => (yLoad rfl Try.underlying3 rfl rfl (hM.ext.cell hq))) ?_
      refine lexQ rfl rfl rfl rfl (fun H hM => (yMove (v := .slice _ _ _) rfl rfl)) ?_
      refine lexQ rfl rfl rfl rfl (fun H hM => (yMove (v := .int _ _) rfl rfl)) ?_
      refine lexQ rfl rfl rfl rfl (fun H hM => (yIdxP1 rfl Try.underlying33 Try.sizeOf23 rfl rfl ep rfl hrl)) ?_
      refine lexQ rfl rfl rfl rfl (fun H hM => (yLoad rfl Try.underlying23 rfl rfl (hM.ext.cell (show cellH _ _ = some (.slice L.A L.l.length L.c) from hp)))) ?_
      refine lexQ rfl rfl rfl rfl (fun H hM => (yLen rfl Try.underlying23 rfl)) ?_
      -- tail
      refine lexNil0 rfl (fun hM => ?_)
      refine seqQ rfl rfl (yEql rfl rfl rfl) ?_
      refine seqNil ?_
      refine hF15 _ _ ?_; clear hF15
      -- if t31
      refine wpCond rfl (fun h47 => ?_) (fun h47 => ?_)
      · skip
        have h47 : i = L.l.length := by simp at h47; omega
        have hno : canB (entsL ls) t r = false := by rw [hcb]; exact decide_eq_false fun h => h.1 h47
        refine wpExit ?_
        refine hF13 _ _ ?_; clear hF13
        refine wpRegion ?_
        refine seqQ rfl rfl (yMove (v := .int _ _) rfl rfl) ?_
        refine seqQ rfl rfl (ySubE rfl rfl rfl (by unfold In64; omega) (show (r : Int) - 1 = (ls.length : Int) - 1 - ((j + 1 : Nat) : Int) by omega)) ?_
        refine seqQ rfl rfl (yAssign (v := .int _ _) rfl rfl) ?_
        refine seqNil ?_
        -- end loop
        exact loopEnd (j + 1, nx, b) (by repeat (first | (with_reducible exact Agree.refl _ _) | refine Agree.upd ?_ rfl | refine Agree.over ?_ rfl)) (by dsimp only; omega) ⟨rfl, rfl, rfl, trivial⟩ ⟨by dsimp only; omega, rfl, by dsimp only; rw [ej1]; exact hlst.no hno, hlf b (by simp [h47])⟩
      · skip
        have h47 : ¬ i = L.l.length := by simp at h47; omega
        have hil : i < L.l.length := by omega
        obtain ⟨pe, epe, hpe⟩ := hL.1.at hil
        have hxr := (hL.2 _ (List.getElem_mem hil)).2
        have hxc := hck i hil
        have hxa := hca i hil
        generalize L.l[i] = x at *
        rw [hxa] at hcb
        refine wpSkip ?_
        refine hF14 _ _ ?_; clear hF14
        refine wpSeq fun F16 hF16 => ?_
        refine wpRegion ?_
        refine seqQ rfl rfl (yAssign (v := .bool _) rfl rfl) ?_
        refine seqNil ?_
        refine hF16 _ _ ?_; clear hF16
        refine wpSeq fun F17 hF17 => ?_
        refine wpRegionD Try_mixed [.q, .q, .q, .q, .q, .q, .q, .q, .q, .q, .q, .q, .q, .e] 13 [0, 0, 3, 7, 0, 0, 48, 112, 255, 511, 1023, 0, 0, 8191] [] (by kernel_rfl) _ rfl [0, 1, 2, 3, 4, 5, 6, 7, 8, 9, 10, 11, 12] rfl (by simp) ?_
        refine lexQ rfl rfl rfl rfl (fun H hM => (yMove (v := .slice _ _ _) rfl rfl)) ?_
        refine lexQ rfl rfl rfl rfl (fun H hM => (yMove (v := .int _ _) rfl rfl)) ?_
        refine lexQ rfl rfl rfl rfl (fun H hM => (yIdxP1 rfl Try.underlying33 Try.sizeOf23 rfl rfl ep rfl hrl)) ?_
        refine lexQ rfl rfl rfl rfl (fun H hM => (yLoad rfl Try.underlying23 rfl rfl (hM.ext.cell (show cellH _ _ = some (.slice L.A L.l.length L.c) from hp)))) ?_
        refine lexQ rfl rfl rfl rfl (fun H hM => (yMove (v := .slice _ _ _) rfl rfl)) ?_
        refine lexQ rfl rfl rfl rfl (fun H hM => (yMove (v := .int _ _) rfl rfl)) ?_
        refine lexQ rfl rfl rfl rfl (fun H hM => (yIdxP1 rfl Try.underlying27 Try.sizeOf3 rfl rfl eq rfl hrl)) ?_
        refine lexQ rfl rfl rfl rfl (fun H hM => (yLoad rfl Try.underlying3 rfl rfl (hM.ext.cell hq))) ?_
        refine lexQ rfl rfl rfl rfl (fun H hM => (yIdxP rfl Try.underlying23 Try.sizeOf86 rfl rfl epe rfl hil)) ?_
        refine lexQ rfl rfl rfl rfl (fun H hM => (yFieldAddr rfl Try.underlying86 rfl Try.sizeOf28 rfl rfl)) ?_
        refine lexQ rfl rfl rfl rfl (fun H hM => (yLoad rfl Try.underlying28 rfl rfl (hM.ext.cell (show cellH _ _ = some (.slice x.CA x.clk.length x.cc) from hpe 5 _ rfl)))) ?_
        refine lexQ rfl rfl rfl rfl (fun H hM => (yMove (v := .int _ _) rfl rfl)) ?_
        refine lexQ rfl rfl rfl rfl (fun H hM => (yMove (v := .slice _ _ _) rfl rfl)) ?_
        -- tail
        refine lexNil0 rfl (fun hM => ?_)
        -- e slot 45: call F53<farandole/farandoleref57.ready> t42 t43 t44
        refine seqE rfl rfl (stepCall rfl Try.call53 rfl ?_)
        refine (ready_c x.clk x.CA x.cc r t (some ⟨g, 0, none⟩) ls.length ls.length Hn hxr rt htl.symm (by omega) (by omega)).mono ?_
        rintro v Hz ⟨rfl, e⟩
        obtain rfl := e.symm
        clear e
        refine seqNil ?_
        refine hF17 _ _ ?_; clear hF17
        -- if t45
        refine wpIf rfl (fun hrd => ?_) (fun hrd => ?_)
        · skip
          have hyes : canB (entsL ls) t r = true := by rw [hcb]; exact decide_eq_true ⟨h47, hrd⟩
          refine wpRegion ?_
          refine seqQ rfl rfl (yMove (v := .int _ _) rfl rfl) ?_
          refine seqQ rfl rfl (yAssign (v := .int _ _) rfl rfl) ?_
          refine seqNil ?_
          refine hF13 _ _ ?_; clear hF13
          refine wpRegion ?_
          refine seqQ rfl rfl (yMove (v := .int _ _) rfl rfl) ?_
          refine seqQ rfl rfl (ySubE rfl rfl rfl (by unfold In64; omega) (show (r : Int) - 1 = (ls.length : Int) - 1 - ((j + 1 : Nat) : Int) by omega)) ?_
          refine seqQ rfl rfl (yAssign (v := .int _ _) rfl rfl) ?_
          refine seqNil ?_
          -- end loop
          exact loopEnd (j + 1, some r, true) (by repeat (first | (with_reducible exact Agree.refl _ _) | refine Agree.upd ?_ rfl | refine Agree.over ?_ rfl)) (by dsimp only; omega) ⟨rfl, rfl, rfl, trivial⟩ ⟨by dsimp only; omega, rfl, by dsimp only; rw [ej1]; exact Least.yes (by omega) hyes, hlf true (by simp [h47])⟩
        · skip
          have hno : canB (entsL ls) t r = false := by rw [hcb]; exact decide_eq_false fun h => hrd h.2
          refine wpSkip ?_
          refine hF13 _ _ ?_; clear hF13
          refine wpRegion ?_
          refine seqQ rfl rfl (yMove (v := .int _ _) rfl rfl) ?_
          refine seqQ rfl rfl (ySubE rfl rfl rfl (by unfold In64; omega) (show (r : Int) - 1 = (ls.length : Int) - 1 - ((j + 1 : Nat) : Int) by omega)) ?_
          refine seqQ rfl rfl (yAssign (v := .int _ _) rfl rfl) ?_
          refine seqNil ?_
          -- end loop
          exact loopEnd (j + 1, nx, true) (by repeat (first | (with_reducible exact Agree.refl _ _) | refine Agree.upd ?_ rfl | refine Agree.over ?_ rfl)) (by dsimp only; omega) ⟨rfl, rfl, rfl, trivial⟩ ⟨by dsimp only; omega, rfl, by dsimp only; rw [ej1]; exact hlst.no hno, hlf true (by simp [h47])⟩
    · skip
      obtain rfl : j = ls.length := by dsimp only at hlt; omega
      rw [Nat.sub_self] at hlst hleft
      have hnx := hlst.next
      dsimp only
      refine wpExit ?_
      refine hF9 _ _ ?_; clear hF9
      refine wpSeq fun F18 hF18 => ?_
      refine wpBlock ?_
      refine wpSeq fun F19 hF19 => ?_
      refine wpRegion ?_
      refine seqQ rfl rfl (yMove (v := .bool _) rfl rfl) ?_
      refine seqQ rfl rfl (yNot rfl rfl) ?_
      refine seqQ rfl rfl (yAssign (v := .bool _) rfl rfl) ?_
      refine seqNil ?_
      refine hF19 _ _ ?_; clear hF19
      -- if t47
      cases b
      · skip
        refine wpT rfl ?_
        have hn0 : n = 0 := by
          rw [← hrem]
          unfold remL
          rw [sum_range_zero]
          intro r hr
          have : ¬ t.getD r 0 ≠ ((entsL ls).getD r []).length := fun hne => by
            have := hleft.2 ⟨r, Nat.zero_le _, by omega, hne⟩
            cases this
          omega
        subst hn0
        rw [mergeGo] at hgo
        refine wpSeq fun F20 hF20 => ?_
        refine wpRegion ?_
        refine seqQ rfl rfl (yMove (v := .slice _ _ _) rfl rfl) ?_
        refine seqQ rfl rfl (yAssign (v := .slice _ _ _) rfl rfl) ?_
        refine seqQ rfl rfl (yAssign (v := .int _ _) rfl rfl) ?_
        refine seqNil ?_
        refine hF20 _ _ ?_; clear hF20
        -- ret
        refine wpRet (fin2 (v := .slice _ _ _) (v' := .int _ _) rfl rfl rfl ?_)
        rw [mergeL_ok hV hgo.symm]
        exact ⟨O, oc, rfl, oo.mono (by omega), hEn⟩
      · skip
        refine wpF rfl ?_
        obtain ⟨r0, -, hr0, hne0⟩ := hleft.1 rfl
        have hnp : 0 < n := by
          rcases Nat.eq_zero_or_pos n with h0 | h0
          · rw [h0] at hrem
            unfold remL at hrem
            rw [sum_range_zero] at hrem
            have h1 := hrem r0 (by omega)
            have h2 := htb r0
            omega
          · exact h0
        obtain ⟨n', rfl⟩ : ∃ n', n = n' + 1 := ⟨n - 1, by omega⟩
        cases nx with
        | none =>
          have hstep : mergeGo (entsL ls) (n' + 1) t o = (false, o) := by simp only [mergeGo, hnx]
          rw [hstep] at hgo
          refine wpSeq fun F21 hF21 => ?_
          refine wpRegion ?_
          refine seqQ rfl rfl (yMove (v := .int _ _) rfl rfl) ?_
          refine seqQ rfl rfl (yLss rfl rfl rfl) ?_
          refine seqQ rfl rfl (yAssign (v := .bool _) rfl rfl) ?_
          refine seqNil ?_
          refine hF21 _ _ ?_; clear hF21
          -- if t51
          rw [show decide (nxV none < 0) = true from rfl]
          refine wpT rfl ?_
          refine wpSeq fun F22 hF22 => ?_
          refine wpRegion ?_
          refine seqQ rfl rfl (yMove (v := .slice _ _ _) rfl rfl) ?_
          refine seqQ rfl rfl (yAssign (v := .slice _ _ _) rfl rfl) ?_
          refine seqQ rfl rfl (yAssign (v := .int _ _) rfl rfl) ?_
          refine seqNil ?_
          refine hF22 _ _ ?_; clear hF22
          -- ret
          refine wpRet (fin2 (v := .slice _ _ _) (v' := .int _ _) rfl rfl rfl ?_)
          rw [mergeL_gap hV hgo.symm]
          exact ⟨O, oc, rfl, oo.mono (by omega), hEn⟩
        | some r =>
          have hstep : mergeGo (entsL ls) (n' + 1) t o = mergeGo (entsL ls) n' (t.set r (t.getD r 0 + 1)) (o ++ [(r, t.getD r 0)]) := by simp only [mergeGo, hnx]
          rw [hstep] at hgo
          obtain ⟨hrl, hcan, -⟩ := next_of hnx
          rw [he] at hrl
          have hlt2 : t.getD r 0 < ((entsL ls).getD r []).length := by
            have h1 := htb r
            unfold canB at hcan
            have h2 := (of_decide_eq_true hcan).1
            omega
          have hset := rem_set (ls := entsL ls) (t := t) (r := r) (by omega) (by omega) hlt2
          rw [hrem] at hset
          have hl1000 : ((entsL ls).getD r []).length ≤ 1000 := by rw [entsL_get hrl, List.length_map]; exact hlen _ (List.getElem_mem hrl)
          generalize hi : t.getD r 0 = i at *
          have hrt : r < (tI t).length := by rw [tI_len]; omega
          obtain ⟨q, eq, hq⟩ := rt.at1 hrt
          rw [tI_get, hi] at hq
          refine wpSeq fun F23 hF23 => ?_
          refine wpRegion ?_
          refine seqQ rfl rfl (yMove (v := .int _ _) rfl rfl) ?_
          refine seqQ rfl rfl (yLss rfl rfl rfl) ?_
          refine seqQ rfl rfl (yAssign (v := .bool _) rfl rfl) ?_
          refine seqNil ?_
          refine hF23 _ _ ?_; clear hF23
          -- if t51
          rw [show decide (nxV (some r) < 0) = false from decide_eq_false (by show ¬ ((r : Nat) : Int) < 0; omega)]
          refine wpF rfl ?_
          dsimp only [nxV]
          refine wpSkip ?_
          refine hF18 _ _ ?_; clear hF18
          refine wpSeq fun F24 hF24 => ?_
          refine wpRegion ?_
          refine seqQ rfl rfl (yMove (v := .slice _ _ _) rfl rfl) ?_
          refine seqQ rfl rfl (yMove (v := .int _ _) rfl rfl) ?_
          refine seqQ rfl rfl (yMove (v := .slice _ _ _) rfl rfl) ?_
          refine seqQ rfl rfl (yMove (v := .int _ _) rfl rfl) ?_
          refine seqQ rfl rfl (yIdxP1 rfl Try.underlying27 Try.sizeOf3 rfl rfl eq rfl hrl) ?_
          refine seqQ rfl rfl (yLoad rfl Try.underlying3 rfl rfl hq) ?_
          refine seqQ rfl rfl (yBuild (pl := [(0, 1), (1, 1)]) (vs := [(0, .int _ _), (1, .int _ _)]) rfl Try.underlying63 Try.zeroValue63 rfl (by unfold Places; kernel_rfl) rfl rfl) ?_
          refine seqN rfl rfl (nBuildSliceN (vs := [.agg _]) rfl Try.underlying58 Try.sizeOf63 Try.zeroValue63 rfl rfl rfl rfl rfl) (fun g62 H62 hx62 hB62 hg62 hl62 => ?_)
          -- e slot 63: builtin append t55 t62 : [58, 58]
          refine seqE rfl rfl (stepApp (c := ePl) (oo.ext hx62) rfl Try.underlying58 elem_plR rfl (by omega) rfl rfl rfl (Blk.rd (c := ePl) (l := [(r, i)]) hB62) (by simp only [List.length_singleton]; omega) (by have := hx62.size; omega) ?_)
          intro v' Hp op gp
          have hEp : Ext H Hp := (hEn.trans hx62).mine gp.1 (fun b hb => by rw [Option.mem_toList] at hb; have := (oo.lt b hb).1; omega)
          have aOT : Apart (.slice O o.length oc) (.slice (some ⟨g, 0, none⟩) ls.length ls.length) := fun b hb hb2 => by
            have hb3 : g = b := Option.some.inj hb2
            have := (oo.lt _ hb).1
            omega
          have otp := (ot.ext hx62).grew gp aOT
          obtain ⟨Op, cp, rfl, -⟩ := op.form
          obtain ⟨q2, eq2, hq2⟩ := (Own.rd otp).2.at1 hrt
          rw [tI_get, hi] at hq2
          obtain rfl := Option.some.inj (eq2.symm.trans eq)
          refine seqQ rfl rfl (yAssign (v := .slice _ _ _) rfl rfl) ?_
          refine seqNil ?_
          refine hF24 _ _ ?_; clear hF24
          refine wpRegion ?_
          refine seqQ rfl rfl (yMove (v := .slice _ _ _) rfl rfl) ?_
          refine seqQ rfl rfl (yMove (v := .int _ _) rfl rfl) ?_
          refine seqQ rfl rfl (yIdxP1 rfl Try.underlying27 Try.sizeOf3 rfl rfl eq rfl hrl) ?_
          refine seqQ rfl rfl (yLoad rfl Try.underlying3 rfl rfl hq2) ?_
          refine seqQ rfl rfl (yAdd rfl rfl rfl (by unfold In64; omega)) ?_
          refine seqQ rfl rfl (yIdx1 rfl Try.underlying27 Try.sizeOf3 rfl rfl rfl hrl) ?_
          -- e slot None: store T3 t69 t68
          refine seqE0 rfl rfl (stepStoreOwn (z := ((i : Int) + 1)) otp rfl Try.sizeOf3 rfl rfl rfl rfl hrt ?_)
          intro Hs ots hKs
          rw [show (tI t).set r ((i : Int) + 1) = tI (t.set r (i + 1)) from by rw [tI_set]; rfl] at ots
          have ops : Own ePl 63 Hs H2.size (.slice Op (o ++ [(r, i)]).length cp) (o ++ [(r, i)]) := op.keep hKs (fun b hb => by have := (op.lt b hb).1; simp; omega)
          have hEs : Ext H Hs := hEp.mine hKs (by simp; omega)
          refine seqNil ?_
          -- end loop
          exact loopEnd (n', t.set r (i + 1), o ++ [(r, i)], _) (by repeat (first | (with_reducible exact Agree.refl _ _) | refine Agree.upd ?_ rfl | refine Agree.over ?_ rfl)) (by dsimp only; omega) ⟨rfl, trivial⟩ ⟨by dsimp only; omega, hEs, by have := hx62.size; have := gp.1.size; have := hKs.size; omega, by dsimp only; rw [List.length_set]; exact htl, fun j => (by
            dsimp only
            by_cases e : r = j
            · subst e
              rw [List.getD_eq_getElem?_getD, List.getElem?_set_self (by omega)]
              exact hlt2
            · rw [List.getD_eq_getElem?_getD, List.getElem?_set_ne e, ← List.getD_eq_getElem?_getD]
              exact htb j), by dsimp only; rw [List.length_append, List.length_singleton]; omega, by dsimp only; omega, hgo, ots, ops⟩
end Go.Proofs.Ytbanngdijmglbaa
