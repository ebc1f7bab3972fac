/- Package log: the document's clocks. -/
import Derived.Test.YtbanngdijmglbaaV2
import Derived.Test.YtbanngdijmglbaaLN
import Derived.Test.YtbanngdijmglbaaLM
namespace Go.Proofs.Ytbanngdijmglbaa
open Go.RowKit

set_option maxRecDepth 100000 in
theorem okC_iff (c : List Int) : okC c = true ↔ 1 ≤ c.length ∧ c.length ≤ 6 ∧ (∀ x ∈ c, 0 ≤ x) ∧ ∀ x ∈ c, x ≤ 1099511627776 := decide_eq_true_iff
set_option maxRecDepth 100000 in
theorem r7Valid_c (A : Option Addr) (ca : Nat) (c : List Int) (H : Heap) (hA : Rd eInt H A c) (hm : c.length ≤ 1000000000) :
    CallsH Try.prog 46 [.slice A c.length ca] H fun v H' => v = .bool (okC c) ∧ H' = H := by
  refine callsH_of Try.func46 rfl Try.ntmps46 (Nat.le_of_ble_eq_true rfl) ?_
  refine wpSeq fun F1 hF1 => ?_
  refine wpRegion ?_
  refine seqQ rfl rfl (yAssign (v := .bool _) rfl rfl) ?_
  refine seqNil ?_
  refine hF1 _ _ ?_; clear hF1
  refine wpSeq fun F2 hF2 => ?_
  refine wpSeq fun F3 hF3 => ?_
  refine wpRegion ?_
  refine seqQ rfl rfl (yAssign (v := .int _ _) rfl rfl) ?_
  refine seqNil ?_
  refine hF3 _ _ ?_; clear hF3
  -- loop
  refine wpBlock ?_
  refine wpLoopS [2, 3, 4, 5, 6, 7, 8, 9, 10, 11, 12, 13, 14, 15, 16, 17, 18, 19, 20, 21] (fun k : Nat => [(3, .int .i64 k)]) (fun k H' => k ≤ c.length ∧ H' = H ∧ ∀ x ∈ c.take k, 0 ≤ x ∧ x ≤ 1099511627776) (fun k => c.length - k) 0 ⟨rfl, trivial⟩ ⟨Nat.zero_le _, rfl, by simp⟩ ?_
  rintro k J H' ⟨hk, rfl, hall⟩
  refine wpSeq fun F4 hF4 => ?_
  refine wpSeq fun F5 hF5 => ?_
  refine wpRegion ?_
  refine seqQ rfl rfl (yMove (v := .int _ _) rfl rfl) ?_
  refine seqQ rfl rfl (yMove (v := .slice _ _ _) rfl rfl) ?_
  refine seqQ rfl rfl (yLen rfl Try.underlying28 rfl) ?_
  refine seqQ rfl rfl (yLss rfl rfl rfl) ?_
  refine seqNil ?_
  refine hF5 _ _ ?_; clear hF5
  -- if t7
  refine wpIf rfl (fun hlt => ?_) (fun hlt => ?_)
  · skip
    have hkc : k < c.length := by omega
    obtain ⟨p, rfl, hp⟩ := hA.at1 hkc
    have hmem := List.getElem_mem hkc
    have hbad : ¬ (0 ≤ c[k] ∧ c[k] ≤ 1099511627776) → okC c = false := fun hb => by
      rw [← Bool.not_eq_true, okC_iff]
      exact fun h => hb ⟨h.2.2.1 _ hmem, h.2.2.2 _ hmem⟩
    refine wpSkip ?_
    refine hF4 _ _ ?_; clear hF4
    refine wpSeq fun F6 hF6 => ?_
    refine wpBlock ?_
    refine wpSeq fun F7 hF7 => ?_
    refine wpRegion ?_
    refine seqQ rfl rfl (yMove (v := .slice _ _ _) rfl rfl) ?_
    refine seqQ rfl rfl (yMove (v := .int _ _) rfl rfl) ?_
    refine seqQ rfl rfl (yIdx1 rfl Try.underlying28 Try.sizeOf3 rfl rfl rfl hkc) ?_
    refine seqQ rfl rfl (yLoad rfl Try.underlying3 rfl rfl hp) ?_
    refine seqQ rfl rfl (yLss rfl rfl rfl) ?_
    first | refine seqG rfl rfl rfl rfl (fun h15 => ?_) (fun h15 => ?_) | refine seqGB rfl rfl rfl rfl (fun h15 => ?_) (fun h15 => ?_)
    · skip
      refine seqU rfl rfl ?_
      refine seqU rfl rfl ?_
      refine seqU rfl rfl ?_
      refine seqU rfl rfl ?_
      refine seqU rfl rfl ?_
      refine seqQ rfl rfl (yPickT (v := .bool _) rfl rfl rfl) ?_
      refine seqNil ?_
      refine hF7 _ _ ?_; clear hF7
      refine wpT rfl ?_
      refine wpSeq fun F8 hF8 => ?_
      refine wpRegion ?_
      refine seqQ rfl rfl (yAssign (v := .bool _) rfl rfl) ?_
      refine seqNil ?_
      refine hF8 _ _ ?_; clear hF8
      refine wpRet (fin1 (v := .bool _) rfl rfl ?_)
      exact ⟨by rw [hbad (by omega)], rfl⟩
    refine seqQ rfl rfl (yMove (v := .slice _ _ _) rfl rfl) ?_
    refine seqQ rfl rfl (yMove (v := .int _ _) rfl rfl) ?_
    refine seqQ rfl rfl (yIdx1 rfl Try.underlying28 Try.sizeOf3 rfl rfl rfl hkc) ?_
    refine seqQ rfl rfl (yLoad rfl Try.underlying3 rfl rfl hp) ?_
    refine seqQ rfl rfl (yGtr rfl rfl rfl) ?_
    refine seqQ rfl rfl (yPickF (v := .bool _) rfl rfl rfl) ?_
    refine seqNil ?_
    refine hF7 _ _ ?_; clear hF7
    -- if t21
    refine wpIf rfl (fun hgt => ?_) (fun hgt => ?_)
    · skip
      refine wpSeq fun F9 hF9 => ?_
      refine wpRegion ?_
      refine seqQ rfl rfl (yAssign (v := .bool _) rfl rfl) ?_
      refine seqNil ?_
      refine hF9 _ _ ?_; clear hF9
      -- ret
      refine wpRet (fin1 (v := .bool _) rfl rfl ?_)
      exact ⟨by rw [hbad (by omega)], rfl⟩
    · skip
      refine wpSkip ?_
      refine hF6 _ _ ?_; clear hF6
      refine wpRegion ?_
      refine seqQ rfl rfl (yMove (v := .int _ _) rfl rfl) ?_
      refine seqQ rfl rfl (yAdd rfl rfl rfl (by unfold In64; omega)) ?_
      refine seqQ rfl rfl (yAssign (v := .int _ _) rfl rfl) ?_
      refine seqNil ?_
      -- end loop
      exact loopEnd (k + 1) (by repeat (first | (with_reducible exact Agree.refl _ _) | refine Agree.upd ?_ rfl | refine Agree.over ?_ rfl)) (by omega) ⟨rfl, trivial⟩ ⟨hkc, rfl, fun x hx => by
        rw [List.take_succ_eq_append_getElem hkc] at hx
        rcases List.mem_append.1 hx with hx | hx
        · exact hall x hx
        · simp at hx
          subst hx
          omega⟩
  · skip
    obtain rfl : k = c.length := by omega
    rw [List.take_length] at hall
    refine wpExit ?_
    refine hF2 _ _ ?_; clear hF2
    refine wpSeq fun F10 hF10 => ?_
    refine wpRegion ?_
    refine seqQ rfl rfl (yMove (v := .slice _ _ _) rfl rfl) ?_
    refine seqQ rfl rfl (yLen rfl Try.underlying28 rfl) ?_
    refine seqQ rfl rfl (yGeq rfl rfl rfl) ?_
    first | refine seqG rfl rfl rfl rfl (fun h25 => ?_) (fun h25 => ?_) | refine seqGB rfl rfl rfl rfl (fun h25 => ?_) (fun h25 => ?_)
    rotate_left
    · skip
      refine seqU rfl rfl ?_
      refine seqU rfl rfl ?_
      refine seqU rfl rfl ?_
      refine seqQ rfl rfl (yPickF (v := .bool _) rfl rfl rfl) ?_
      refine seqQ rfl rfl (yAssign (v := .bool _) rfl rfl) ?_
      refine seqNil ?_
      refine hF10 _ _ ?_; clear hF10
      refine wpRet (fin1 (v := .bool _) rfl rfl ?_)
      exact ⟨by rw [show okC c = false from by rw [← Bool.not_eq_true, okC_iff]; omega], rfl⟩
    refine seqQ rfl rfl (yMove (v := .slice _ _ _) rfl rfl) ?_
    refine seqQ rfl rfl (yLen rfl Try.underlying28 rfl) ?_
    refine seqQ rfl rfl (yLeq rfl rfl rfl) ?_
    refine seqQ rfl rfl (yPickT (v := .bool _) rfl rfl rfl) ?_
    refine seqQ rfl rfl (yAssign (v := .bool _) rfl rfl) ?_
    refine seqNil ?_
    refine hF10 _ _ ?_; clear hF10
    -- ret
    refine wpRet (fin1 (v := .bool _) rfl rfl ?_)
    exact ⟨by congr 1; rw [Bool.eq_iff_iff, okC_iff, decide_eq_true_iff]; exact ⟨fun h => ⟨by omega, by omega, fun x hx => (hall x hx).1, fun x hx => (hall x hx).2⟩, fun h => by omega⟩, rfl⟩
set_option maxRecDepth 100000 in
theorem r7AtMost_c (A B : Option Addr) (ca cb : Nat) (a b : List Int) (H : Heap) (hA : Rd eInt H A a) (hB : Rd eInt H B b) (hm : a.length ≤ 1000000000) :
    CallsH Try.prog 47 [.slice A a.length ca, .slice B b.length cb] H fun v H' => v = .bool (decide (a.length = b.length) && leB a b) ∧ H' = H := by
  refine callsH_of Try.func47 rfl Try.ntmps47 (Nat.le_of_ble_eq_true rfl) ?_
  refine wpSeq fun F1 hF1 => ?_
  refine wpRegion ?_
  refine seqQ rfl rfl (yAssign (v := .bool _) rfl rfl) ?_
  refine seqNil ?_
  refine hF1 _ _ ?_; clear hF1
  refine wpSeq fun F2 hF2 => ?_
  refine wpSeq fun F3 hF3 => ?_
  refine wpRegion ?_
  refine seqQ rfl rfl (yMove (v := .slice _ _ _) rfl rfl) ?_
  refine seqQ rfl rfl (yLen rfl Try.underlying28 rfl) ?_
  refine seqQ rfl rfl (yMove (v := .slice _ _ _) rfl rfl) ?_
  refine seqQ rfl rfl (yLen rfl Try.underlying28 rfl) ?_
  refine seqQ rfl rfl (yNeq rfl rfl rfl) ?_
  refine seqNil ?_
  refine hF3 _ _ ?_; clear hF3
  -- if t10
  refine wpCond rfl (fun hl => ?_) (fun hl => ?_)
  · skip
    have hl : a.length ≠ b.length := by simp at hl; omega
    refine wpSeq fun F4 hF4 => ?_
    refine wpRegion ?_
    refine seqQ rfl rfl (yAssign (v := .bool _) rfl rfl) ?_
    refine seqNil ?_
    refine hF4 _ _ ?_; clear hF4
    -- ret
    refine wpRet (fin1 (v := .bool _) rfl rfl ?_)
    exact ⟨by simp [hl], rfl⟩
  · skip
    have hl : a.length = b.length := by simp at hl; omega
    rw [decide_eq_true hl, Bool.true_and]
    refine wpSkip ?_
    refine hF2 _ _ ?_; clear hF2
    refine wpSeq fun F5 hF5 => ?_
    refine wpSeq fun F6 hF6 => ?_
    refine wpRegion ?_
    refine seqQ rfl rfl (yAssign (v := .int _ _) rfl rfl) ?_
    refine seqNil ?_
    refine hF6 _ _ ?_; clear hF6
    -- loop
    refine wpBlock ?_
    refine wpLoopS [4, 5, 11, 12, 13, 14, 15, 16, 17, 18, 19, 20, 21, 22, 23, 24, 25] (fun k : Nat => [(5, .int .i64 k)]) (fun k H' => k ≤ a.length ∧ H' = H ∧ leB (a.drop k) (b.drop k) = leB a b) (fun k => a.length - k) 0 ⟨rfl, trivial⟩ ⟨Nat.zero_le _, rfl, rfl⟩ ?_
    rintro k J H' ⟨hk, rfl, hd⟩
    refine wpSeq fun F7 hF7 => ?_
    refine wpSeq fun F8 hF8 => ?_
    refine wpRegion ?_
    refine seqQ rfl rfl (yMove (v := .int _ _) rfl rfl) ?_
    refine seqQ rfl rfl (yMove (v := .slice _ _ _) rfl rfl) ?_
    refine seqQ rfl rfl (yLen rfl Try.underlying28 rfl) ?_
    refine seqQ rfl rfl (yLss rfl rfl rfl) ?_
    refine seqNil ?_
    refine hF8 _ _ ?_; clear hF8
    -- if t14
    refine wpIf rfl (fun hlt => ?_) (fun hlt => ?_)
    · skip
      have hka : k < a.length := by omega
      have hkb : k < b.length := by omega
      obtain ⟨p, rfl, hp⟩ := hA.at1 hka
      obtain ⟨q, rfl, hq⟩ := hB.at1 hkb
      rw [leB_step hka hkb] at hd
      refine wpSkip ?_
      refine hF7 _ _ ?_; clear hF7
      refine wpSeq fun F9 hF9 => ?_
      refine wpBlock ?_
      refine wpSeq fun F10 hF10 => ?_
      refine wpRegionD Try_mixed [.q, .q, .q, .q, .q, .q, .q, .q, .q] 8 [0, 0, 3, 7, 0, 0, 48, 112, 255] [] (by kernel_rfl) _ rfl [0, 1, 2, 3, 4, 5, 6, 7] rfl (by simp) ?_
      refine lexQ rfl rfl rfl rfl (fun H hM => (yMove (v := .slice _ _ _) rfl rfl)) ?_
      refine lexQ rfl rfl rfl rfl (fun H hM => (yMove (v := .int _ _) rfl rfl)) ?_
      refine lexQ rfl rfl rfl rfl (fun H hM => (yIdx1 rfl Try.underlying28 Try.sizeOf3 rfl rfl rfl hka)) ?_
      refine lexQ rfl rfl rfl rfl (fun H hM => (yLoad rfl Try.underlying3 rfl rfl (hM.ext.cell hp))) ?_
      refine lexQ rfl rfl rfl rfl (fun H hM => (yMove (v := .slice _ _ _) rfl rfl)) ?_
      refine lexQ rfl rfl rfl rfl (fun H hM => (yMove (v := .int _ _) rfl rfl)) ?_
      refine lexQ rfl rfl rfl rfl (fun H hM => (yIdx1 rfl Try.underlying28 Try.sizeOf3 rfl rfl rfl hkb)) ?_
      refine lexQ rfl rfl rfl rfl (fun H hM => (yLoad rfl Try.underlying3 rfl rfl (hM.ext.cell hq))) ?_
      -- tail
      refine lexNil0 rfl (fun hM => ?_)
      refine seqQ rfl rfl (yGtr rfl rfl rfl) ?_
      refine seqNil ?_
      refine hF10 _ _ ?_; clear hF10
      -- if t25
      refine wpIf rfl (fun hgt => ?_) (fun hgt => ?_)
      · skip
        refine wpSeq fun F11 hF11 => ?_
        refine wpRegion ?_
        refine seqQ rfl rfl (yAssign (v := .bool _) rfl rfl) ?_
        refine seqNil ?_
        refine hF11 _ _ ?_; clear hF11
        -- ret
        refine wpRet (fin1 (v := .bool _) rfl rfl ?_)
        have : ¬ a[k] ≤ b[k] := by omega
        exact ⟨by rw [← hd]; simp [this], rfl⟩
      · skip
        refine wpSkip ?_
        refine hF9 _ _ ?_; clear hF9
        refine wpRegion ?_
        refine seqQ rfl rfl (yMove (v := .int _ _) rfl rfl) ?_
        refine seqQ rfl rfl (yAdd rfl rfl rfl (by unfold In64; omega)) ?_
        refine seqQ rfl rfl (yAssign (v := .int _ _) rfl rfl) ?_
        refine seqNil ?_
        -- end loop
        have : a[k] ≤ b[k] := by omega
        exact loopEnd (k + 1) (by repeat (first | (with_reducible exact Agree.refl _ _) | refine Agree.upd ?_ rfl | refine Agree.over ?_ rfl)) (by omega) ⟨rfl, trivial⟩ ⟨by omega, rfl, by rw [← hd]; simp [this]⟩
    · skip
      obtain rfl : k = a.length := by omega
      refine wpExit ?_
      refine hF5 _ _ ?_; clear hF5
      refine wpSeq fun F12 hF12 => ?_
      refine wpRegion ?_
      refine seqQ rfl rfl (yAssign (v := .bool _) rfl rfl) ?_
      refine seqNil ?_
      refine hF12 _ _ ?_; clear hF12
      -- ret
      refine wpRet (fin1 (v := .bool _) rfl rfl ?_)
      exact ⟨by rw [decide_eq_true hl, ← hd, List.drop_length]; rfl, rfl⟩
set_option maxRecDepth 100000 in
theorem leB_both : ∀ (a b : List Int), a.length = b.length → (leB a b = true ∧ leB b a = true ↔ a = b)
  | [], [], _ => by simp [leB]
  | x :: a, y :: b, h => by
    simp only [leB, Bool.and_eq_true, decide_eq_true_eq, List.cons.injEq, ← leB_both a b (by simpa using h)]
    exact ⟨fun h => ⟨by omega, h.1.2, h.2.2⟩, fun h => ⟨⟨by omega, h.2.1⟩, by omega, h.2.2⟩⟩
  | [], _ :: _, h => by simp at h
  | _ :: _, [], h => by simp at h
set_option maxRecDepth 100000 in
theorem r7Equal_c (A B : Option Addr) (ca cb : Nat) (a b : List Int) (H : Heap) (hA : Rd eInt H A a) (hB : Rd eInt H B b) (hm : a.length ≤ 1000000000) (hn : b.length ≤ 1000000000) :
    CallsH Try.prog 49 [.slice A a.length ca, .slice B b.length cb] H fun v H' => v = .bool (decide (a = b)) ∧ H' = H := by
  refine callsH_of Try.func49 rfl Try.ntmps49 (Nat.le_of_ble_eq_true rfl) ?_
  refine wpSeq fun F1 hF1 => ?_
  refine wpRegion ?_
  refine seqQ rfl rfl (yAssign (v := .bool _) rfl rfl) ?_
  refine seqNil ?_
  refine hF1 _ _ ?_; clear hF1
  refine wpSeq fun F2 hF2 => ?_
  refine wpRegion ?_
  refine seqQ rfl rfl (yMove (v := .slice _ _ _) rfl rfl) ?_
  refine seqQ rfl rfl (yMove (v := .slice _ _ _) rfl rfl) ?_
  -- e slot 7: call F47<farandole/farandoleref07.AtMost> t5 t6
  refine seqE rfl rfl (stepCall rfl Try.call47 rfl ?_)
  refine (r7AtMost_c A B ca cb a b H hA hB hm).mono ?_
  rintro v H1 ⟨rfl, rfl⟩
  -- guard t8
  refine seqGB rfl rfl rfl rfl (fun h1 => ?_) (fun h1 => ?_)
  · skip
    simp only [Bool.and_eq_true, decide_eq_true_eq] at h1
    refine seqQ rfl rfl (yMove (v := .slice _ _ _) rfl rfl) ?_
    refine seqQ rfl rfl (yMove (v := .slice _ _ _) rfl rfl) ?_
    -- e slot 11: call F47<farandole/farandoleref07.AtMost> t9 t10
    refine seqE rfl rfl (stepCall rfl Try.call47 rfl ?_)
    refine (r7AtMost_c B A cb ca b a H1 hB hA hn).mono ?_
    rintro v H2 ⟨rfl, rfl⟩
    refine seqQ rfl rfl (yPickT (v := .bool _) rfl rfl rfl) ?_
    refine seqQ rfl rfl (yAssign (v := .bool _) rfl rfl) ?_
    refine seqNil ?_
    refine hF2 _ _ ?_; clear hF2
    -- ret
    refine wpRet (fin1 (v := .bool _) rfl rfl ?_)
    refine ⟨?_, rfl⟩
    congr 1
    rw [Bool.eq_iff_iff]
    simp only [Bool.and_eq_true, decide_eq_true_eq]
    rw [← leB_both a b h1.1]
    exact ⟨fun h => ⟨h1.2, h.2⟩, fun h => ⟨h1.1.symm, h.2⟩⟩
  · skip
    refine seqU rfl rfl ?_
    refine seqU rfl rfl ?_
    refine seqU rfl rfl ?_
    refine seqQ rfl rfl (yPickF (v := .bool _) rfl rfl rfl) ?_
    refine seqQ rfl rfl (yAssign (v := .bool _) rfl rfl) ?_
    refine seqNil ?_
    refine hF2 _ _ ?_; clear hF2
    -- ret
    refine wpRet (fin1 (v := .bool _) rfl rfl ?_)
    refine ⟨?_, rfl⟩
    congr 1
    symm
    rw [decide_eq_false_iff_not]
    rintro rfl
    have := (leB_both a a rfl).2 rfl
    simp [this.1] at h1
set_option maxRecDepth 100000 in
theorem r7Tick_c (A : Option Addr) (ca : Nat) (c : List Int) (r : Int) (H : Heap) (hA : Rd eInt H A c) (hm : c.length ≤ 1000000000) :
    CallsH Try.prog 40 [.slice A c.length ca, .int .i64 r] H fun v H' => Ext H H' ∧ ∃ s, v = .tuple #[s, .int .i64 (tickF c r).1] ∧ Own eInt 3 H' H.size s (tickF c r).2 := by
  refine callsH_of Try.func40 rfl Try.ntmps40 (Nat.le_of_ble_eq_true rfl) ?_
  refine wpSeq fun F1 hF1 => ?_
  refine wpRegion ?_
  refine seqQ rfl rfl (yAssign (v := .slice _ _ _) rfl rfl) ?_
  refine seqQ rfl rfl (yAssign (v := .int _ _) rfl rfl) ?_
  refine seqNil ?_
  refine hF1 _ _ ?_; clear hF1
  refine wpSeq fun F2 hF2 => ?_
  refine wpBlock ?_
  refine wpSeq fun F3 hF3 => ?_
  refine wpRegion ?_
  refine seqQ rfl rfl (yMove (v := .slice _ _ _) rfl rfl) ?_
  -- e slot 9: call F46<farandole/farandoleref07.Valid> t8
  refine seqE rfl rfl (stepCall rfl Try.call46 rfl ?_)
  refine (r7Valid_c A ca c H hA hm).mono ?_
  rintro v H1 ⟨rfl, rfl⟩
  refine seqQ rfl rfl (yNot rfl rfl) ?_
  refine seqQ rfl rfl (yAssign (v := .bool _) rfl rfl) ?_
  refine seqNil ?_
  refine hF3 _ _ ?_; clear hF3
  -- if t7
  refine wpCond rfl (fun hv => ?_) (fun hv => ?_)
  · skip
    have hv : okC c = false := by simpa using hv
    refine wpSeq fun F4 hF4 => ?_
    refine wpRegion ?_
    refine seqQ rfl rfl (yAssign (v := .slice _ _ _) rfl rfl) ?_
    refine seqQ rfl rfl (yAssign (v := .int _ _) rfl rfl) ?_
    refine seqNil ?_
    refine hF4 _ _ ?_; clear hF4
    -- ret
    refine wpRet (fin2 (v := .slice _ _ _) (v' := .int _ _) rfl rfl rfl ?_)
    exact ⟨Ext.refl _, _, by unfold tickF; rw [if_pos hv], by unfold tickF; rw [if_pos hv]; exact Own.nil _ _⟩
  · skip
    have hv : okC c = true := by simpa using hv
    have hv' : ¬ okC c = false := by rw [hv]; simp
    obtain ⟨o1, o2, o3, o4⟩ := okC_of hv
    refine wpSeq fun F5 hF5 => ?_
    refine wpRegion ?_
    refine seqQ rfl rfl (yMove (v := .int _ _) rfl rfl) ?_
    refine seqQ rfl rfl (yLss rfl rfl rfl) ?_
    -- guard t14
    refine seqG rfl rfl rfl rfl (fun hr0 => ?_) (fun hr0 => ?_)
    · skip
      have e : tickF c r = (12, []) := by unfold tickF; rw [if_neg hv', if_pos (.inl hr0)]
      refine seqU rfl rfl ?_
      refine seqU rfl rfl ?_
      refine seqU rfl rfl ?_
      refine seqU rfl rfl ?_
      refine seqQ rfl rfl (yPickT (v := .bool _) rfl rfl rfl) ?_
      refine seqQ rfl rfl (yAssign (v := .bool _) rfl rfl) ?_
      refine seqNil ?_
      refine hF5 _ _ ?_; clear hF5
      -- if t11
      refine wpT rfl ?_
      refine wpSeq fun F6 hF6 => ?_
      refine wpRegion ?_
      refine seqQ rfl rfl (yAssign (v := .slice _ _ _) rfl rfl) ?_
      refine seqQ rfl rfl (yAssign (v := .int _ _) rfl rfl) ?_
      refine seqNil ?_
      refine hF6 _ _ ?_; clear hF6
      -- ret
      refine wpRet (fin2 (v := .slice _ _ _) (v' := .int _ _) rfl rfl rfl ?_)
      exact ⟨Ext.refl _, _, by rw [e], by rw [e]; exact Own.nil _ _⟩
    · skip
      refine seqQ rfl rfl (yMove (v := .int _ _) rfl rfl) ?_
      refine seqQ rfl rfl (yMove (v := .slice _ _ _) rfl rfl) ?_
      refine seqQ rfl rfl (yLen rfl Try.underlying28 rfl) ?_
      refine seqQ rfl rfl (yGeq rfl rfl rfl) ?_
      refine seqQ rfl rfl (yPickF (v := .bool _) rfl rfl rfl) ?_
      refine seqQ rfl rfl (yAssign (v := .bool _) rfl rfl) ?_
      refine seqNil ?_
      refine hF5 _ _ ?_; clear hF5
      -- if t11
      refine wpCond rfl (fun hr1 => ?_) (fun hr1 => ?_)
      · skip
        have hr1 : (c.length : Int) ≤ r := by simpa using hr1
        have e : tickF c r = (12, []) := by unfold tickF; rw [if_neg hv', if_pos (.inr hr1)]
        refine wpSeq fun F7 hF7 => ?_
        refine wpRegion ?_
        refine seqQ rfl rfl (yAssign (v := .slice _ _ _) rfl rfl) ?_
        refine seqQ rfl rfl (yAssign (v := .int _ _) rfl rfl) ?_
        refine seqNil ?_
        refine hF7 _ _ ?_; clear hF7
        -- ret
        refine wpRet (fin2 (v := .slice _ _ _) (v' := .int _ _) rfl rfl rfl ?_)
        exact ⟨Ext.refl _, _, by rw [e], by rw [e]; exact Own.nil _ _⟩
      · skip
        have hr1 : r < (c.length : Int) := by simpa using hr1
        obtain ⟨k, rfl⟩ := Int.eq_ofNat_of_zero_le (show 0 ≤ r by omega)
        have hk : k < c.length := by omega
        obtain ⟨p, rfl, hp⟩ := hA.at1 hk
        have hg : c.getD (Int.toNat k) 0 = c[k] := by simp [hk]
        have hb := o4 c[k] (List.getElem_mem hk)
        have hb0 := o3 c[k] (List.getElem_mem hk)
        refine wpSeq fun F8 hF8 => ?_
        refine wpRegion ?_
        refine seqQ rfl rfl (yMove (v := .slice _ _ _) rfl rfl) ?_
        refine seqQ rfl rfl (yMove (v := .int _ _) rfl rfl) ?_
        refine seqQ rfl rfl (yIdx1 rfl Try.underlying28 Try.sizeOf3 rfl rfl rfl hk) ?_
        refine seqQ rfl rfl (yLoad rfl Try.underlying3 rfl rfl hp) ?_
        refine seqQ rfl rfl (yEql rfl rfl rfl) ?_
        refine seqQ rfl rfl (yAssign (v := .bool _) rfl rfl) ?_
        refine seqNil ?_
        refine hF8 _ _ ?_; clear hF8
        -- if t20
        refine wpCond rfl (fun hmax => ?_) (fun hmax => ?_)
        · skip
          have hmax : c[k] = 1099511627776 := by simpa using hmax
          have e : tickF c k = (6, []) := by unfold tickF; rw [if_neg hv', if_neg (by omega), if_pos (by rw [hg]; exact hmax)]
          refine wpSeq fun F9 hF9 => ?_
          refine wpRegion ?_
          refine seqQ rfl rfl (yAssign (v := .slice _ _ _) rfl rfl) ?_
          refine seqQ rfl rfl (yAssign (v := .int _ _) rfl rfl) ?_
          refine seqNil ?_
          refine hF9 _ _ ?_; clear hF9
          -- ret
          refine wpRet (fin2 (v := .slice _ _ _) (v' := .int _ _) rfl rfl rfl ?_)
          exact ⟨Ext.refl _, _, by rw [e], by rw [e]; exact Own.nil _ _⟩
        · skip
          have hmax : ¬ c[k] = 1099511627776 := by simpa using hmax
          have e : tickF c k = (0, c.set k (c[k] + 1)) := by unfold tickF; rw [if_neg hv', if_neg (by omega), if_neg (by rw [hg]; exact hmax), hg]; rfl
          refine wpSkip ?_
          refine hF2 _ _ ?_; clear hF2
          refine wpSeq fun F10 hF10 => ?_
          refine wpRegion ?_
          refine seqN rfl rfl (nBuildSlice (vs := []) rfl Try.underlying28 Try.sizeOf3 Try.zeroValue3 rfl rfl rfl rfl) (fun g26 H26 hx26 hB26 hg26 hl26 => ?_)
          refine seqQ rfl rfl (yMove (v := .slice _ _ _) rfl rfl) ?_
          -- e slot 28: builtin append t26 t27 : [28, 28]
          refine seqE rfl rfl (stepApp (c := eInt) (Own.lit (c := eInt) (l := []) (base := H1.size) hB26 hg26 (by simp)) rfl Try.underlying28 elem_eInt rfl (by omega) rfl rfl rfl (hA.ext hx26) (by simp; omega) hx26.size ?_)
          intro v H2 hown gr
          rw [List.nil_append] at hown
          have hx : Ext H1 H2 := gr.ext hx26 (by rintro g e; obtain rfl := Option.some.inj e; exact hg26)
          obtain ⟨A2, c2, rfl, -, hrd, hA2⟩ := hown.form
          obtain ⟨q, rfl, hq⟩ := hrd.at1 hk
          refine seqQ rfl rfl (yAssign (v := .slice _ _ _) rfl rfl) ?_
          refine seqNil ?_
          refine hF10 _ _ ?_; clear hF10
          refine wpSeq fun F11 hF11 => ?_
          refine wpRegion ?_
          refine seqQ rfl rfl (yMove (v := .slice _ _ _) rfl rfl) ?_
          refine seqQ rfl rfl (yMove (v := .int _ _) rfl rfl) ?_
          refine seqQ rfl rfl (yIdx1 rfl Try.underlying28 Try.sizeOf3 rfl rfl rfl hk) ?_
          refine seqQ rfl rfl (yLoad rfl Try.underlying3 rfl rfl hq) ?_
          refine seqQ rfl rfl (yAdd rfl rfl rfl (by unfold In64; omega)) ?_
          refine seqQ rfl rfl (yIdx1 rfl Try.underlying28 Try.sizeOf3 rfl rfl rfl (by omega)) ?_
          -- e slot None: store T3 t34 t33
          refine seqE0 rfl rfl (stepStoreOwn hown rfl Try.sizeOf3 rfl rfl rfl rfl hk ?_)
          intro H3 hown3 hkeep
          refine seqNil ?_
          refine hF11 _ _ ?_; clear hF11
          refine wpSeq fun F12 hF12 => ?_
          refine wpRegion ?_
          refine seqQ rfl rfl (yMove (v := .slice _ _ _) rfl rfl) ?_
          refine seqQ rfl rfl (yAssign (v := .slice _ _ _) rfl rfl) ?_
          refine seqQ rfl rfl (yAssign (v := .int _ _) rfl rfl) ?_
          refine seqNil ?_
          refine hF12 _ _ ?_; clear hF12
          -- ret
          refine wpRet (fin2 (v := .slice _ _ _) (v' := .int _ _) rfl rfl rfl ?_)
          refine ⟨hx.mine hkeep (by simp; exact (hA2 _ rfl).1), _, by rw [e], by rw [e]; exact hown3⟩
set_option maxRecDepth 100000 in
theorem zip_take {a b : List Int} {k : Nat} (ha : k < a.length) (hb : k < b.length) : (List.zipWith max a b).take k ++ [max a[k] b[k]] = (List.zipWith max a b).take (k + 1) := by
  rw [List.take_succ_eq_append_getElem (by rw [List.length_zipWith]; omega), List.getElem_zipWith]
set_option maxRecDepth 100000 in
theorem r7Join_c (A B : Option Addr) (ca cb : Nat) (a b : List Int) (H : Heap) (hA : Rd eInt H A a) (hB : Rd eInt H B b) (ha : a.length ≤ 1000000000) (hb : b.length ≤ 1000000000) :
    CallsH Try.prog 44 [.slice A a.length ca, .slice B b.length cb] H fun v H' => Ext H H' ∧ ∃ s, v = .tuple #[s, .int .i64 (joinF a b).1] ∧ Own eInt 3 H' H.size s (joinF a b).2 := by
  refine callsH_of Try.func44 rfl Try.ntmps44 (Nat.le_of_ble_eq_true rfl) ?_
  refine wpSeq fun F1 hF1 => ?_
  refine wpRegion ?_
  refine seqQ rfl rfl (yAssign (v := .slice _ _ _) rfl rfl) ?_
  refine seqQ rfl rfl (yAssign (v := .int _ _) rfl rfl) ?_
  refine seqNil ?_
  refine hF1 _ _ ?_; clear hF1
  refine wpSeq fun F2 hF2 => ?_
  refine wpSeq fun F3 hF3 => ?_
  refine wpRegion ?_
  refine seqQ rfl rfl (yMove (v := .slice _ _ _) rfl rfl) ?_
  -- e slot 9: call F46<farandole/farandoleref07.Valid> t8
  refine seqE rfl rfl (stepCall rfl Try.call46 rfl ?_)
  refine (r7Valid_c A ca a H hA ha).mono ?_
  rintro v H1 ⟨rfl, rfl⟩
  refine seqQ rfl rfl (yNot rfl rfl) ?_
  -- guard t11
  refine seqGB rfl rfl rfl rfl (fun hv => ?_) (fun hv => ?_)
  · skip
    have hv : okC a = false := by simpa using hv
    have e := joinF_bad (a := a) (b := b) (fun h => by rw [hv] at h; simp at h)
    refine seqU rfl rfl ?_
    refine seqU rfl rfl ?_
    refine seqU rfl rfl ?_
    refine seqQ rfl rfl (yPickT (v := .bool _) rfl rfl rfl) ?_
    refine seqQ rfl rfl (yMove (v := .bool true) rfl rfl) ?_
    refine seqU rfl rfl ?_
    refine seqU rfl rfl ?_
    refine seqU rfl rfl ?_
    refine seqU rfl rfl ?_
    refine seqU rfl rfl ?_
    refine seqQ rfl rfl (yPickT (v := .bool _) rfl rfl rfl) ?_
    refine seqNil ?_
    refine hF3 _ _ ?_; clear hF3
    -- if t22
    refine wpT rfl ?_
    refine wpSeq fun F4 hF4 => ?_
    refine wpRegion ?_
    refine seqQ rfl rfl (yAssign (v := .slice _ _ _) rfl rfl) ?_
    refine seqQ rfl rfl (yAssign (v := .int _ _) rfl rfl) ?_
    refine seqNil ?_
    refine hF4 _ _ ?_; clear hF4
    -- ret
    refine wpRet (fin2 (v := .slice _ _ _) (v' := .int _ _) rfl rfl rfl ?_)
    exact ⟨Ext.refl _, _, by rw [e], by rw [e]; exact Own.nil _ _⟩
  · skip
    have hv : okC a = true := by simpa using hv
    refine seqQ rfl rfl (yMove (v := .slice _ _ _) rfl rfl) ?_
    -- e slot 13: call F46<farandole/farandoleref07.Valid> t12
    refine seqE rfl rfl (stepCall rfl Try.call46 rfl ?_)
    refine (r7Valid_c B cb b H1 hB hb).mono ?_
    rintro v H2 ⟨rfl, rfl⟩
    refine seqQ rfl rfl (yNot rfl rfl) ?_
    refine seqQ rfl rfl (yPickF (v := .bool _) rfl rfl rfl) ?_
    -- guard t16
    refine seqGB rfl rfl rfl rfl (fun hw => ?_) (fun hw => ?_)
    · skip
      have hw : okC b = false := by simpa using hw
      have e := joinF_bad (a := a) (b := b) (fun h => by rw [hw] at h; simp at h)
      refine seqU rfl rfl ?_
      refine seqU rfl rfl ?_
      refine seqU rfl rfl ?_
      refine seqU rfl rfl ?_
      refine seqU rfl rfl ?_
      refine seqQ rfl rfl (yPickT (v := .bool _) rfl rfl rfl) ?_
      refine seqNil ?_
      refine hF3 _ _ ?_; clear hF3
      -- if t22
      refine wpT rfl ?_
      refine wpSeq fun F5 hF5 => ?_
      refine wpRegion ?_
      refine seqQ rfl rfl (yAssign (v := .slice _ _ _) rfl rfl) ?_
      refine seqQ rfl rfl (yAssign (v := .int _ _) rfl rfl) ?_
      refine seqNil ?_
      refine hF5 _ _ ?_; clear hF5
      -- ret
      refine wpRet (fin2 (v := .slice _ _ _) (v' := .int _ _) rfl rfl rfl ?_)
      exact ⟨Ext.refl _, _, by rw [e], by rw [e]; exact Own.nil _ _⟩
    · skip
      have hw : okC b = true := by simpa using hw
      have o1 := okC_of hv
      refine seqQ rfl rfl (yMove (v := .slice _ _ _) rfl rfl) ?_
      refine seqQ rfl rfl (yLen rfl Try.underlying28 rfl) ?_
      refine seqQ rfl rfl (yMove (v := .slice _ _ _) rfl rfl) ?_
      refine seqQ rfl rfl (yLen rfl Try.underlying28 rfl) ?_
      refine seqQ rfl rfl (yNeq rfl rfl rfl) ?_
      refine seqQ rfl rfl (yPickF (v := .bool _) rfl rfl rfl) ?_
      refine seqNil ?_
      refine hF3 _ _ ?_; clear hF3
      -- if t22
      refine wpCond rfl (fun hl => ?_) (fun hl => ?_)
      · skip
        have hl : ¬ a.length = b.length := by simp at hl; omega
        have e := joinF_bad (a := a) (b := b) (fun h => hl h.2.2)
        refine wpSeq fun F6 hF6 => ?_
        refine wpRegion ?_
        refine seqQ rfl rfl (yAssign (v := .slice _ _ _) rfl rfl) ?_
        refine seqQ rfl rfl (yAssign (v := .int _ _) rfl rfl) ?_
        refine seqNil ?_
        refine hF6 _ _ ?_; clear hF6
        -- ret
        refine wpRet (fin2 (v := .slice _ _ _) (v' := .int _ _) rfl rfl rfl ?_)
        exact ⟨Ext.refl _, _, by rw [e], by rw [e]; exact Own.nil _ _⟩
      · skip
        have hl : a.length = b.length := by simp at hl; omega
        have e := joinF_ok (a := a) (b := b) ⟨hv, hw, hl⟩
        refine wpSkip ?_
        refine hF2 _ _ ?_; clear hF2
        refine wpSeq fun F7 hF7 => ?_
        refine wpRegion ?_
        refine seqQ rfl rfl (yAssign (v := .slice _ _ _) rfl rfl) ?_
        refine seqNil ?_
        refine hF7 _ _ ?_; clear hF7
        refine wpSeq fun F8 hF8 => ?_
        refine wpSeq fun F9 hF9 => ?_
        refine wpRegion ?_
        refine seqQ rfl rfl (yAssign (v := .int _ _) rfl rfl) ?_
        refine seqNil ?_
        refine hF9 _ _ ?_; clear hF9
        -- loop
        refine wpBlock ?_
        refine wpLoopS [6, 7, 23, 24, 25, 26, 27, 28, 29, 30, 31, 32, 33, 34, 35, 36, 37, 38, 39, 40] (fun x : Nat × Value => [(7, .int .i64 x.1), (6, x.2)]) (fun x H' => x.1 ≤ a.length ∧ Ext H2 H' ∧ Own eInt 3 H' H2.size x.2 ((List.zipWith max a b).take x.1)) (fun x => a.length - x.1) (0, .slice none 0 0) ⟨rfl, rfl, trivial⟩ ⟨Nat.zero_le _, Ext.refl _, Own.nil _ _⟩ ?_
        rintro ⟨k, s⟩ J H' ⟨hk, hx, hown⟩
        dsimp only at hk hown
        obtain ⟨A1, c1, rfl, -⟩ := hown.form
        refine wpSeq fun F10 hF10 => ?_
        refine wpSeq fun F11 hF11 => ?_
        refine wpRegion ?_
        refine seqQ rfl rfl (yMove (v := .int _ _) rfl rfl) ?_
        refine seqQ rfl rfl (yMove (v := .slice _ _ _) rfl rfl) ?_
        refine seqQ rfl rfl (yLen rfl Try.underlying28 rfl) ?_
        refine seqQ rfl rfl (yLss rfl rfl rfl) ?_
        refine seqNil ?_
        refine hF11 _ _ ?_; clear hF11
        -- if t26
        refine wpIf rfl (fun hlt => ?_) (fun hlt => ?_)
        · skip
          have hka : k < a.length := by omega
          have hkb : k < b.length := by omega
          obtain ⟨p, rfl, hp⟩ := (hA.ext hx).at1 hka
          obtain ⟨q, rfl, hq⟩ := (hB.ext hx).at1 hkb
          refine wpSkip ?_
          refine hF10 _ _ ?_; clear hF10
          refine wpSeq fun F12 hF12 => ?_
          refine wpBlock ?_
          refine wpRegionD Try_mixed [.q, .q, .q, .q, .q, .q, .q, .q, .q, .q, .n, .e, .q] 11 [0, 0, 0, 6, 14, 0, 0, 96, 224, 510, 1022, 2047, 4095] [] (by kernel_rfl) _ rfl [0, 1, 2, 3, 4, 5, 6, 7, 8, 9, 10] rfl (by simp) ?_
          refine lexQ rfl rfl rfl rfl (fun H hM => (yMove (v := .slice _ _ _) rfl rfl)) ?_
          refine lexQ rfl rfl rfl rfl (fun H hM => (yMove (v := .slice _ _ _) rfl rfl)) ?_
          refine lexQ rfl rfl rfl rfl (fun H hM => (yMove (v := .int _ _) rfl rfl)) ?_
          refine lexQ rfl rfl rfl rfl (fun H hM => (yIdx1 rfl Try.underlying28 Try.sizeOf3 rfl rfl rfl hka)) ?_
          refine lexQ rfl rfl rfl rfl (fun H hM => (yLoad rfl Try.underlying3 rfl rfl (hM.ext.cell hp))) ?_
          refine lexQ rfl rfl rfl rfl (fun H hM => (yMove (v := .slice _ _ _) rfl rfl)) ?_
          refine lexQ rfl rfl rfl rfl (fun H hM => (yMove (v := .int _ _) rfl rfl)) ?_
          refine lexQ rfl rfl rfl rfl (fun H hM => (yIdx1 rfl Try.underlying28 Try.sizeOf3 rfl rfl rfl hkb)) ?_
          refine lexQ rfl rfl rfl rfl (fun H hM => (yLoad rfl Try.underlying3 rfl rfl (hM.ext.cell hq))) ?_
          refine lexQ rfl rfl rfl rfl (fun H hM => (yMax rfl rfl rfl)) ?_
          refine lexNB rfl rfl rfl rfl (nBuildSlice (vs := [.int _ _]) rfl Try.underlying28 Try.sizeOf3 Try.zeroValue3 rfl rfl rfl rfl) (fun g39 hg39 hne39 => ?_)
          -- tail
          refine lexNil (fun K5 hX5 hM5 hN5 => ?_)
          -- e slot 40: builtin append t29 t39 : [28, 28]
          refine seqE rfl rfl (stepApp (c := eInt) (hown.ext hX5) rfl Try.underlying28 elem_eInt rfl (by omega) rfl rfl rfl (Blk.rd (c := eInt) (l := [max a[k] b[k]]) (NF.blk 10 hN5 (.head _))) (by simp; omega) (by have := hx.size; have := hX5.size; omega) ?_)
          intro v' H4 o4 g4
          rw [zip_take hka hkb] at o4
          obtain ⟨A4, c4, rfl, -⟩ := o4.form
          refine seqQ rfl rfl (yAssign (v := .slice _ _ _) rfl rfl) ?_
          refine seqNil ?_
          refine hF12 _ _ ?_; clear hF12
          refine wpRegion ?_
          refine seqQ rfl rfl (yMove (v := .int _ _) rfl rfl) ?_
          refine seqQ rfl rfl (yAdd rfl rfl rfl (by unfold In64; omega)) ?_
          refine seqQ rfl rfl (yAssign (v := .int _ _) rfl rfl) ?_
          refine seqNil ?_
          -- end loop
          exact loopEnd (k + 1, _) (by repeat (first | (with_reducible exact Agree.refl _ _) | refine Agree.upd ?_ rfl | refine Agree.over ?_ rfl)) (by dsimp only; omega) ⟨rfl, rfl, trivial⟩ ⟨hka, g4.ext (hx.trans hX5) (fun g e => (hown.lt g e).1), o4⟩
        · skip
          obtain rfl : k = a.length := by omega
          rw [show (List.zipWith max a b).take a.length = List.zipWith max a b from List.take_of_length_le (by rw [List.length_zipWith]; omega)] at hown ⊢
          refine wpExit ?_
          refine hF8 _ _ ?_; clear hF8
          refine wpSeq fun F13 hF13 => ?_
          refine wpRegion ?_
          refine seqQ rfl rfl (yMove (v := .slice _ _ _) rfl rfl) ?_
          refine seqQ rfl rfl (yAssign (v := .slice _ _ _) rfl rfl) ?_
          refine seqQ rfl rfl (yAssign (v := .int _ _) rfl rfl) ?_
          refine seqNil ?_
          refine hF13 _ _ ?_; clear hF13
          -- ret
          refine wpRet (fin2 (v := .slice _ _ _) (v' := .int _ _) rfl rfl rfl ?_)
          exact ⟨hx, _, by rw [e], by rw [e]; exact hown⟩
set_option maxRecDepth 100000 in
theorem r7Receive_c (A B : Option Addr) (ca cb : Nat) (a b : List Int) (r : Int) (H : Heap) (hA : Rd eInt H A a) (hB : Rd eInt H B b) (ha : a.length ≤ 1000000000) (hb : b.length ≤ 1000000000) :
    CallsH Try.prog 84 [.slice A a.length ca, .slice B b.length cb, .int .i64 r] H fun v H' => Ext H H' ∧ ∃ s, v = .tuple #[s, .int .i64 (receiveF a b r).1] ∧ Own eInt 3 H' H.size s (receiveF a b r).2 := by
  refine callsH_of Try.func84 rfl Try.ntmps84 (Nat.le_of_ble_eq_true rfl) ?_
  refine wpSeq fun F1 hF1 => ?_
  refine wpRegion ?_
  refine seqQ rfl rfl (yAssign (v := .slice _ _ _) rfl rfl) ?_
  refine seqQ rfl rfl (yAssign (v := .int _ _) rfl rfl) ?_
  refine seqNil ?_
  refine hF1 _ _ ?_; clear hF1
  refine wpSeq fun F2 hF2 => ?_
  refine wpRegion ?_
  refine seqQ rfl rfl (yMove (v := .slice _ _ _) rfl rfl) ?_
  refine seqQ rfl rfl (yMove (v := .slice _ _ _) rfl rfl) ?_
  -- e slot 13: call F44<farandole/farandoleref07.Join> t11 t12
  refine seqE rfl rfl (stepCall rfl Try.call44 rfl ?_)
  refine (r7Join_c A B ca cb a b H hA hB ha hb).mono ?_
  rintro v H1 ⟨hx, s, rfl, hown⟩
  obtain ⟨A1, c1, rfl, -, hrd, -⟩ := hown.form
  refine seqQ rfl rfl (yMove (v := .tuple _) rfl rfl) ?_
  refine seqQ rfl rfl (yExtract (v := .slice _ _ _) rfl rfl rfl) ?_
  refine seqQ rfl rfl (yExtract (v := .int _ _) rfl rfl rfl) ?_
  refine seqQ rfl rfl (yAssign (v := .slice _ _ _) rfl rfl) ?_
  refine seqQ rfl rfl (yAssign (v := .int _ _) rfl rfl) ?_
  refine seqNil ?_
  refine hF2 _ _ ?_; clear hF2
  refine wpSeq fun F3 hF3 => ?_
  refine wpSeq fun F4 hF4 => ?_
  refine wpRegion ?_
  refine seqQ rfl rfl (yMove (v := .int _ _) rfl rfl) ?_
  refine seqQ rfl rfl (yNeq rfl rfl rfl) ?_
  refine seqNil ?_
  refine hF4 _ _ ?_; clear hF4
  -- if t17
  refine wpCond rfl (fun he => ?_) (fun he => ?_)
  · skip
    have he : ¬ (joinF a b).1 = 0 := by simpa using he
    have e : receiveF a b r = ((joinF a b).1, []) := if_neg he
    refine wpSeq fun F5 hF5 => ?_
    refine wpRegion ?_
    refine seqQ rfl rfl (yMove (v := .int _ _) rfl rfl) ?_
    refine seqQ rfl rfl (yAssign (v := .slice _ _ _) rfl rfl) ?_
    refine seqQ rfl rfl (yAssign (v := .int _ _) rfl rfl) ?_
    refine seqNil ?_
    refine hF5 _ _ ?_; clear hF5
    -- ret
    refine wpRet (fin2 (v := .slice _ _ _) (v' := .int _ _) rfl rfl rfl ?_)
    exact ⟨hx, _, by rw [e], by rw [e]; exact Own.nil _ _⟩
  · skip
    have he : (joinF a b).1 = 0 := by simpa using he
    have e : receiveF a b r = tickF (joinF a b).2 r := if_pos he
    refine wpSkip ?_
    refine hF3 _ _ ?_; clear hF3
    refine wpSeq fun F6 hF6 => ?_
    refine wpRegion ?_
    refine seqQ rfl rfl (yMove (v := .slice _ _ _) rfl rfl) ?_
    refine seqQ rfl rfl (yMove (v := .int _ _) rfl rfl) ?_
    -- e slot 21: call F40<farandole/farandoleref07.Tick> t19 t20
    refine seqE rfl rfl (stepCall rfl Try.call40 rfl ?_)
    refine (r7Tick_c A1 c1 _ r H1 hrd (okC_len (joinF_len a b))).mono ?_
    rintro v H2 ⟨hx2, s, rfl, hown2⟩
    obtain ⟨A2, c2, rfl, -⟩ := hown2.form
    refine seqQ rfl rfl (yExtract (v := .slice _ _ _) rfl rfl rfl) ?_
    refine seqQ rfl rfl (yExtract (v := .int _ _) rfl rfl rfl) ?_
    refine seqQ rfl rfl (yAssign (v := .slice _ _ _) rfl rfl) ?_
    refine seqQ rfl rfl (yAssign (v := .int _ _) rfl rfl) ?_
    refine seqNil ?_
    refine hF6 _ _ ?_; clear hF6
    -- ret
    refine wpRet (fin2 (v := .slice _ _ _) (v' := .int _ _) rfl rfl rfl ?_)
    exact ⟨hx.trans hx2, _, by rw [e], by rw [e]; exact hown2.mono hx.size⟩
end Go.Proofs.Ytbanngdijmglbaa
