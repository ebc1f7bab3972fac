/- Package link: the document's links: what is valid; delays, fates, copies. -/
import Derived.Test.YtckbcfldjniafaaL1
namespace Go.Proofs.Ytckbcfldjniafaa
open Go.RowKit

set_option maxRecDepth 100000 in
theorem elem_eFHr : Elem Try.prog 63 (.agg #[.int .i64 0, .slice none 0 0]) 2 32 := by unfold Elem; kernel_rfl
set_option maxRecDepth 100000 in
theorem rValidL_c (l : LH) (H : Heap) (h : LkRd H l) (hs : LkSm l) :
    CallsH Try.prog 19 [.agg (lkC l).toArray] H fun v H' => v = .bool (decide (ValidL l.lk)) ∧ Ext H H' := by
  have s1 := hs.pat
  have s2 := hs.fly
  have hpl : l.lk.pat.length = l.pat.length := rfl
  have hfl := fly_len l
  refine callsH_of Try.func19 rfl Try.ntmps19 (Nat.le_of_ble_eq_true rfl) ?_
  refine wpSeq fun F1 hF1 => ?_
  refine wpRegion ?_
  refine seqN rfl rfl (nBoxA rfl rfl) (fun g1 H1 hx1 hB1 hg1 hl1 => ?_)
  refine seqQ rfl rfl (yAssign (v := .bool _) rfl rfl) ?_
  refine seqNil ?_
  refine hF1 _ _ ?_; clear hF1
  refine wpSeq fun F2 hF2 => ?_
  refine wpSeq fun F3 hF3 => ?_
  refine wpRegion ?_
  refine seqQ rfl rfl (yFieldAddr rfl Try.underlying25 rfl Try.sizeOf22 rfl rfl) ?_
  refine seqQ rfl rfl (yLoad rfl Try.underlying22 rfl rfl (hB1.cell rfl)) ?_
  refine seqQ rfl rfl (yLen rfl Try.underlying22 rfl) ?_
  refine seqQ rfl rfl (yGtr rfl rfl rfl) ?_
  first | refine seqG rfl rfl rfl rfl (fun h9 => ?_) (fun h9 => ?_) | refine seqGB rfl rfl rfl rfl (fun h9 => ?_) (fun h9 => ?_)
  · skip
    refine seqU rfl rfl ?_
    refine seqU rfl rfl ?_
    refine seqU rfl rfl ?_
    refine seqQ rfl rfl (yPickT (v := .bool _) rfl rfl rfl) ?_
    refine seqQ rfl rfl (yMove (v := .bool true) rfl rfl) ?_
    refine seqU rfl rfl ?_
    refine seqU rfl rfl ?_
    refine seqU rfl rfl ?_
    refine seqQ rfl rfl (yPickT (v := .bool _) rfl rfl rfl) ?_
    refine seqQ rfl rfl (yMove (v := .bool true) rfl rfl) ?_
    refine seqU rfl rfl ?_
    refine seqU rfl rfl ?_
    refine seqU rfl rfl ?_
    refine seqQ rfl rfl (yPickT (v := .bool _) rfl rfl rfl) ?_
    refine seqQ rfl rfl (yMove (v := .bool true) rfl rfl) ?_
    refine seqU rfl rfl ?_
    refine seqU rfl rfl ?_
    refine seqU rfl rfl ?_
    refine seqQ rfl rfl (yPickT (v := .bool _) rfl rfl rfl) ?_
    refine seqQ rfl rfl (yMove (v := .bool true) rfl rfl) ?_
    refine seqU rfl rfl ?_
    refine seqU rfl rfl ?_
    refine seqU rfl rfl ?_
    refine seqU rfl rfl ?_
    refine seqQ rfl rfl (yPickT (v := .bool _) rfl rfl rfl) ?_
    refine seqNil ?_
    refine hF3 _ _ ?_; clear hF3
    refine wpT rfl ?_
    refine wpSeq fun F4 hF4 => ?_
    refine wpRegion ?_
    refine seqQ rfl rfl (yAssign (v := .bool _) rfl rfl) ?_
    refine seqNil ?_
    refine hF4 _ _ ?_; clear hF4
    refine wpRet (fin1 (v := .bool _) rfl rfl ?_)
    exact ⟨by congr 1; rw [decide_eq_false (fun hv => by obtain ⟨v1, ⟨v2, v3⟩, ⟨v4, v5⟩, v6, -⟩ := hv; have : l.lk.now = l.now := rfl; have : l.lk.sent = l.sent := rfl; omega)], hx1⟩
  refine seqQ rfl rfl (yFieldAddr rfl Try.underlying25 rfl Try.sizeOf3 rfl rfl) ?_
  refine seqQ rfl rfl (yLoad rfl Try.underlying3 rfl rfl (hB1.cell rfl)) ?_
  refine seqQ rfl rfl (yLss rfl rfl rfl) ?_
  refine seqQ rfl rfl (yPickF (v := .bool _) rfl rfl rfl) ?_
  first | refine seqG rfl rfl rfl rfl (fun h14 => ?_) (fun h14 => ?_) | refine seqGB rfl rfl rfl rfl (fun h14 => ?_) (fun h14 => ?_)
  · skip
    refine seqU rfl rfl ?_
    refine seqU rfl rfl ?_
    refine seqU rfl rfl ?_
    refine seqQ rfl rfl (yPickT (v := .bool _) rfl rfl rfl) ?_
    refine seqQ rfl rfl (yMove (v := .bool true) rfl rfl) ?_
    refine seqU rfl rfl ?_
    refine seqU rfl rfl ?_
    refine seqU rfl rfl ?_
    refine seqQ rfl rfl (yPickT (v := .bool _) rfl rfl rfl) ?_
    refine seqQ rfl rfl (yMove (v := .bool true) rfl rfl) ?_
    refine seqU rfl rfl ?_
    refine seqU rfl rfl ?_
    refine seqU rfl rfl ?_
    refine seqQ rfl rfl (yPickT (v := .bool _) rfl rfl rfl) ?_
    refine seqQ rfl rfl (yMove (v := .bool true) rfl rfl) ?_
    refine seqU rfl rfl ?_
    refine seqU rfl rfl ?_
    refine seqU rfl rfl ?_
    refine seqU rfl rfl ?_
    refine seqQ rfl rfl (yPickT (v := .bool _) rfl rfl rfl) ?_
    refine seqNil ?_
    refine hF3 _ _ ?_; clear hF3
    refine wpT rfl ?_
    refine wpSeq fun F5 hF5 => ?_
    refine wpRegion ?_
    refine seqQ rfl rfl (yAssign (v := .bool _) rfl rfl) ?_
    refine seqNil ?_
    refine hF5 _ _ ?_; clear hF5
    refine wpRet (fin1 (v := .bool _) rfl rfl ?_)
    exact ⟨by congr 1; rw [decide_eq_false (fun hv => by obtain ⟨v1, ⟨v2, v3⟩, ⟨v4, v5⟩, v6, -⟩ := hv; have : l.lk.now = l.now := rfl; have : l.lk.sent = l.sent := rfl; omega)], hx1⟩
  refine seqQ rfl rfl (yFieldAddr rfl Try.underlying25 rfl Try.sizeOf3 rfl rfl) ?_
  refine seqQ rfl rfl (yLoad rfl Try.underlying3 rfl rfl (hB1.cell rfl)) ?_
  refine seqQ rfl rfl (yGtr rfl rfl rfl) ?_
  refine seqQ rfl rfl (yPickF (v := .bool _) rfl rfl rfl) ?_
  first | refine seqG rfl rfl rfl rfl (fun h19 => ?_) (fun h19 => ?_) | refine seqGB rfl rfl rfl rfl (fun h19 => ?_) (fun h19 => ?_)
  · skip
    refine seqU rfl rfl ?_
    refine seqU rfl rfl ?_
    refine seqU rfl rfl ?_
    refine seqQ rfl rfl (yPickT (v := .bool _) rfl rfl rfl) ?_
    refine seqQ rfl rfl (yMove (v := .bool true) rfl rfl) ?_
    refine seqU rfl rfl ?_
    refine seqU rfl rfl ?_
    refine seqU rfl rfl ?_
    refine seqQ rfl rfl (yPickT (v := .bool _) rfl rfl rfl) ?_
    refine seqQ rfl rfl (yMove (v := .bool true) rfl rfl) ?_
    refine seqU rfl rfl ?_
    refine seqU rfl rfl ?_
    refine seqU rfl rfl ?_
    refine seqU rfl rfl ?_
    refine seqQ rfl rfl (yPickT (v := .bool _) rfl rfl rfl) ?_
    refine seqNil ?_
    refine hF3 _ _ ?_; clear hF3
    refine wpT rfl ?_
    refine wpSeq fun F6 hF6 => ?_
    refine wpRegion ?_
    refine seqQ rfl rfl (yAssign (v := .bool _) rfl rfl) ?_
    refine seqNil ?_
    refine hF6 _ _ ?_; clear hF6
    refine wpRet (fin1 (v := .bool _) rfl rfl ?_)
    exact ⟨by congr 1; rw [decide_eq_false (fun hv => by obtain ⟨v1, ⟨v2, v3⟩, ⟨v4, v5⟩, v6, -⟩ := hv; have : l.lk.now = l.now := rfl; have : l.lk.sent = l.sent := rfl; omega)], hx1⟩
  refine seqQ rfl rfl (yFieldAddr rfl Try.underlying25 rfl Try.sizeOf3 rfl rfl) ?_
  refine seqQ rfl rfl (yLoad rfl Try.underlying3 rfl rfl (hB1.cell rfl)) ?_
  refine seqQ rfl rfl (yLss rfl rfl rfl) ?_
  refine seqQ rfl rfl (yPickF (v := .bool _) rfl rfl rfl) ?_
  first | refine seqG rfl rfl rfl rfl (fun h24 => ?_) (fun h24 => ?_) | refine seqGB rfl rfl rfl rfl (fun h24 => ?_) (fun h24 => ?_)
  · skip
    refine seqU rfl rfl ?_
    refine seqU rfl rfl ?_
    refine seqU rfl rfl ?_
    refine seqQ rfl rfl (yPickT (v := .bool _) rfl rfl rfl) ?_
    refine seqQ rfl rfl (yMove (v := .bool true) rfl rfl) ?_
    refine seqU rfl rfl ?_
    refine seqU rfl rfl ?_
    refine seqU rfl rfl ?_
    refine seqU rfl rfl ?_
    refine seqQ rfl rfl (yPickT (v := .bool _) rfl rfl rfl) ?_
    refine seqNil ?_
    refine hF3 _ _ ?_; clear hF3
    refine wpT rfl ?_
    refine wpSeq fun F7 hF7 => ?_
    refine wpRegion ?_
    refine seqQ rfl rfl (yAssign (v := .bool _) rfl rfl) ?_
    refine seqNil ?_
    refine hF7 _ _ ?_; clear hF7
    refine wpRet (fin1 (v := .bool _) rfl rfl ?_)
    exact ⟨by congr 1; rw [decide_eq_false (fun hv => by obtain ⟨v1, ⟨v2, v3⟩, ⟨v4, v5⟩, v6, -⟩ := hv; have : l.lk.now = l.now := rfl; have : l.lk.sent = l.sent := rfl; omega)], hx1⟩
  refine seqQ rfl rfl (yFieldAddr rfl Try.underlying25 rfl Try.sizeOf3 rfl rfl) ?_
  refine seqQ rfl rfl (yLoad rfl Try.underlying3 rfl rfl (hB1.cell rfl)) ?_
  refine seqQ rfl rfl (yGtr rfl rfl rfl) ?_
  refine seqQ rfl rfl (yPickF (v := .bool _) rfl rfl rfl) ?_
  first | refine seqG rfl rfl rfl rfl (fun h29 => ?_) (fun h29 => ?_) | refine seqGB rfl rfl rfl rfl (fun h29 => ?_) (fun h29 => ?_)
  · skip
    refine seqU rfl rfl ?_
    refine seqU rfl rfl ?_
    refine seqU rfl rfl ?_
    refine seqU rfl rfl ?_
    refine seqQ rfl rfl (yPickT (v := .bool _) rfl rfl rfl) ?_
    refine seqNil ?_
    refine hF3 _ _ ?_; clear hF3
    refine wpT rfl ?_
    refine wpSeq fun F8 hF8 => ?_
    refine wpRegion ?_
    refine seqQ rfl rfl (yAssign (v := .bool _) rfl rfl) ?_
    refine seqNil ?_
    refine hF8 _ _ ?_; clear hF8
    refine wpRet (fin1 (v := .bool _) rfl rfl ?_)
    exact ⟨by congr 1; rw [decide_eq_false (fun hv => by obtain ⟨v1, ⟨v2, v3⟩, ⟨v4, v5⟩, v6, -⟩ := hv; have : l.lk.now = l.now := rfl; have : l.lk.sent = l.sent := rfl; omega)], hx1⟩
  refine seqQ rfl rfl (yFieldAddr rfl Try.underlying25 rfl Try.sizeOf23 rfl rfl) ?_
  refine seqQ rfl rfl (yLoad rfl Try.underlying23 rfl rfl (hB1.cell rfl)) ?_
  refine seqQ rfl rfl (yLen rfl Try.underlying23 rfl) ?_
  refine seqQ rfl rfl (yGtr rfl rfl rfl) ?_
  refine seqQ rfl rfl (yPickF (v := .bool _) rfl rfl rfl) ?_
  refine seqNil ?_
  refine hF3 _ _ ?_; clear hF3
  -- if t34
  refine wpIf rfl (fun h300 => ?_) (fun h300 => ?_)
  · skip
    refine wpSeq fun F9 hF9 => ?_
    refine wpRegion ?_
    refine seqQ rfl rfl (yAssign (v := .bool _) rfl rfl) ?_
    refine seqNil ?_
    refine hF9 _ _ ?_; clear hF9
    -- ret
    refine wpRet (fin1 (v := .bool _) rfl rfl ?_)
    exact ⟨by congr 1; rw [decide_eq_false (fun hv => by obtain ⟨v1, ⟨v2, v3⟩, ⟨v4, v5⟩, v6, -⟩ := hv; omega)], hx1⟩
  · skip
    have hnow : 0 ≤ l.now ∧ l.now ≤ 1099511627776 := by omega
    have hsent : 0 ≤ l.sent ∧ l.sent ≤ 1099511627776 := by omega
    have hpat : l.pat.length ≤ 200 := by omega
    have hf300 : l.fly.length ≤ 300 := by omega
    clear h9 h14 h19 h24 h29 h300
    have hrf := h.fly.ext hx1
    refine wpSkip ?_
    refine hF2 _ _ ?_; clear hF2
    refine wpSeq fun F10 hF10 => ?_
    refine wpSeq fun F11 hF11 => ?_
    refine wpRegion ?_
    refine seqQ rfl rfl (yAssign (v := .int _ _) rfl rfl) ?_
    refine seqNil ?_
    refine hF11 _ _ ?_; clear hF11
    -- loop
    refine wpBlock ?_
    refine wpLoopS [2, 3, 4, 35, 36, 37, 38, 39, 40, 41, 42, 43, 44, 45, 46, 47, 48, 49, 50, 51, 52, 53, 54, 55, 56, 57, 58, 59, 60, 61, 62, 63, 64, 65, 66, 67, 68, 69, 70, 71, 72, 73, 74, 75, 76, 77, 78, 79, 80, 81] (fun k : Nat => [(3, .int .i64 k)]) (fun k H' => k ≤ l.fly.length ∧ (∀ j, j < k → FOk l.now l.lk.fly j) ∧ Ext H1 H') (fun k => l.fly.length - k) 0 ⟨rfl, trivial⟩ ⟨Nat.zero_le _, fun j hj => absurd hj (by omega), Ext.refl _⟩ ?_
    rintro k J Hk ⟨hk, ho, hE⟩
    have h1 := hB1.ext hE
    refine wpSeq fun F12 hF12 => ?_
    refine wpSeq fun F13 hF13 => ?_
    refine wpRegion ?_
    refine seqQ rfl rfl (yMove (v := .int _ _) rfl rfl) ?_
    refine seqQ rfl rfl (yFieldAddr rfl Try.underlying25 rfl Try.sizeOf23 rfl rfl) ?_
    refine seqQ rfl rfl (yLoad rfl Try.underlying23 rfl rfl (h1.cell rfl)) ?_
    refine seqQ rfl rfl (yLen rfl Try.underlying23 rfl) ?_
    refine seqQ rfl rfl (yLss rfl rfl rfl) ?_
    refine seqNil ?_
    refine hF13 _ _ ?_; clear hF13
    -- if t39
    refine wpIf rfl (fun hlt => ?_) (fun hlt => ?_)
    · skip
      have hk : k < l.fly.length := by omega
      have hgk := getD_fl l hk
      obtain ⟨p, ep, hp⟩ := hrf.at hk
      have hbad : ¬ FOk l.now l.lk.fly k → ¬ ValidL l.lk := fun hb hv => hb (hv.2.2.2.2 k (by rw [fly_len]; exact hk))
      refine wpSkip ?_
      refine hF12 _ _ ?_; clear hF12
      refine wpSeq fun F14 hF14 => ?_
      refine wpBlock ?_
      refine wpSeq fun F15 hF15 => ?_
      refine wpRegion ?_
      refine seqQ rfl rfl (yFieldAddr rfl Try.underlying25 rfl Try.sizeOf23 rfl rfl) ?_
      refine seqQ rfl rfl (yLoad rfl Try.underlying23 rfl rfl (h1.cell rfl)) ?_
      refine seqQ rfl rfl (yMove (v := .int _ _) rfl rfl) ?_
      refine seqQ rfl rfl (yIdxP rfl Try.underlying23 Try.sizeOf63 rfl rfl ep rfl hk) ?_
      refine seqQ rfl rfl (yLoadC (cs := eFH.F l.fly[k]) rfl Try.underlying63 rfl Try.sizeOf63 rfl (fun j u hu => hE.cell (hp j u hu))) ?_
      refine seqN rfl rfl (nAlloc rfl Try.zeroValue63 rfl) (fun g4 H4 hx4 hB4 hg4 hl4 => ?_)
      -- e slot None: store T63 t4 t46
      refine seqE0 rfl rfl (stepStoreB rfl (by kernel_rfl) rfl rfl rfl hB4 rfl ?_)
      intro H5 h4 hK5
      have hE5 : Ext H1 H5 := (hE.trans hx4).mine hK5 (by have := hE.size; simp; omega)
      replace h1 := hB1.ext hE5
      clear hK5 hx4 hB4
      refine seqNil ?_
      refine hF15 _ _ ?_; clear hF15
      refine wpSeq fun F16 hF16 => ?_
      refine wpRegionD Try_mixed [.q, .q, .q, .q, .q, .q, .q, .q, .q, .q, .q, .q, .q, .q, .q, .q, .q, .q, .q, .q, .q, .q, .q, .q, .q, .q, .q, .q, .q, .q, .q, .q, .q, .q, .q] 32 [0, 1, 3, 7, 15, 31, 63, 31, 159, 511, 1023, 2047, 4095, 8191, 4095, 20479, 53247, 131071, 262143, 524287, 1048575, 2097151, 4194303, 8388607, 16777215, 8388607, 41943039, 134217727, 268435455, 536870911, 8388607, 1082130431, 4294967295, 8589934591, 17179869183] [] (by kernel_rfl) _ rfl [0, 1, 2, 3, 4, 5, 6, 7, 8, 9, 10, 11, 12, 13, 14, 15, 16, 17, 18, 19, 20, 21, 22, 23, 24, 25, 26, 27, 28, 29, 30, 31] rfl (by simp) ?_
      refine lexQ rfl rfl rfl rfl (fun H hM => (yFieldAddr rfl Try.underlying63 rfl Try.sizeOf22 rfl rfl)) ?_
      refine lexQ rfl rfl rfl rfl (fun H hM => (yLoad rfl Try.underlying22 rfl rfl (hM.ext.cell (h4.cell rfl)))) ?_
      refine lexQ rfl rfl rfl rfl (fun H hM => (yLen rfl Try.underlying22 rfl)) ?_
      refine lexQ rfl rfl rfl rfl (fun H hM => (yGtr rfl rfl rfl)) ?_
      first | refine lexG rfl rfl rfl rfl rfl rfl (fun h51 => ?_) (fun h51 => ?_) | refine lexGB rfl rfl rfl rfl rfl rfl (fun h51 => ?_) (fun h51 => ?_)
      · skip
        refine lexU rfl rfl rfl ?_
        refine lexU rfl rfl rfl ?_
        refine lexU rfl rfl rfl ?_
        refine lexU rfl rfl rfl ?_
        refine lexU rfl rfl rfl ?_
        refine lexQ rfl rfl rfl rfl (fun H hM => (yPickT (v := .bool _) rfl rfl rfl)) ?_
        refine lexQ rfl rfl rfl rfl (fun H hM => (yMove (v := .bool true) rfl rfl)) ?_
        refine lexU rfl rfl rfl ?_
        refine lexU rfl rfl rfl ?_
        refine lexU rfl rfl rfl ?_
        refine lexU rfl rfl rfl ?_
        refine lexU rfl rfl rfl ?_
        refine lexU rfl rfl rfl ?_
        refine lexQ rfl rfl rfl rfl (fun H hM => (yPickT (v := .bool _) rfl rfl rfl)) ?_
        refine lexQ rfl rfl rfl rfl (fun H hM => (yMove (v := .bool true) rfl rfl)) ?_
        refine lexU rfl rfl rfl ?_
        refine lexU rfl rfl rfl ?_
        refine lexU rfl rfl rfl ?_
        refine lexU rfl rfl rfl ?_
        refine lexU rfl rfl rfl ?_
        refine lexU rfl rfl rfl ?_
        refine lexU rfl rfl rfl ?_
        refine lexU rfl rfl rfl ?_
        refine lexU rfl rfl rfl ?_
        refine lexU rfl rfl rfl ?_
        refine lexU rfl rfl rfl ?_
        refine lexU rfl rfl rfl ?_
        refine lexNil0 rfl (fun hM => ?_)
        refine seqU rfl rfl ?_
        refine seqU rfl rfl ?_
        refine seqQ rfl rfl (yPickT (v := .bool _) rfl rfl rfl) ?_
        refine seqNil ?_
        refine hF16 _ _ ?_; clear hF16
        refine wpT rfl ?_
        refine wpSeq fun F17 hF17 => ?_
        refine wpRegion ?_
        refine seqQ rfl rfl (yAssign (v := .bool _) rfl rfl) ?_
        refine seqNil ?_
        refine hF17 _ _ ?_; clear hF17
        refine wpRet (fin1 (v := .bool _) rfl rfl ?_)
        exact ⟨by rw [decide_eq_false (hbad fun hf => by simp only [FOk, hgk] at hf; omega)], hx1.trans hE5⟩
      refine lexQ rfl rfl rfl rfl (fun H hM => (yFieldAddr rfl Try.underlying63 rfl Try.sizeOf3 rfl rfl)) ?_
      refine lexQ rfl rfl rfl rfl (fun H hM => (yLoad rfl Try.underlying3 rfl rfl (hM.ext.cell (h4.cell rfl)))) ?_
      refine lexQ rfl rfl rfl rfl (fun H hM => (yFieldAddr rfl Try.underlying25 rfl Try.sizeOf3 rfl rfl)) ?_
      refine lexQ rfl rfl rfl rfl (fun H hM => (yLoad rfl Try.underlying3 rfl rfl (hM.ext.cell (h1.cell rfl)))) ?_
      refine lexQ rfl rfl rfl rfl (fun H hM => (yLeq rfl rfl rfl)) ?_
      refine lexQ rfl rfl rfl rfl (fun H hM => (yPickF (v := .bool _) rfl rfl rfl)) ?_
      first | refine lexG rfl rfl rfl rfl rfl rfl (fun h58 => ?_) (fun h58 => ?_) | refine lexGB rfl rfl rfl rfl rfl rfl (fun h58 => ?_) (fun h58 => ?_)
      · skip
        refine lexU rfl rfl rfl ?_
        refine lexU rfl rfl rfl ?_
        refine lexU rfl rfl rfl ?_
        refine lexU rfl rfl rfl ?_
        refine lexU rfl rfl rfl ?_
        refine lexU rfl rfl rfl ?_
        refine lexQ rfl rfl rfl rfl (fun H hM => (yPickT (v := .bool _) rfl rfl rfl)) ?_
        refine lexQ rfl rfl rfl rfl (fun H hM => (yMove (v := .bool true) rfl rfl)) ?_
        refine lexU rfl rfl rfl ?_
        refine lexU rfl rfl rfl ?_
        refine lexU rfl rfl rfl ?_
        refine lexU rfl rfl rfl ?_
        refine lexU rfl rfl rfl ?_
        refine lexU rfl rfl rfl ?_
        refine lexU rfl rfl rfl ?_
        refine lexU rfl rfl rfl ?_
        refine lexU rfl rfl rfl ?_
        refine lexU rfl rfl rfl ?_
        refine lexU rfl rfl rfl ?_
        refine lexU rfl rfl rfl ?_
        refine lexNil0 rfl (fun hM => ?_)
        refine seqU rfl rfl ?_
        refine seqU rfl rfl ?_
        refine seqQ rfl rfl (yPickT (v := .bool _) rfl rfl rfl) ?_
        refine seqNil ?_
        refine hF16 _ _ ?_; clear hF16
        refine wpT rfl ?_
        refine wpSeq fun F18 hF18 => ?_
        refine wpRegion ?_
        refine seqQ rfl rfl (yAssign (v := .bool _) rfl rfl) ?_
        refine seqNil ?_
        refine hF18 _ _ ?_; clear hF18
        refine wpRet (fin1 (v := .bool _) rfl rfl ?_)
        exact ⟨by rw [decide_eq_false (hbad fun hf => by simp only [FOk, hgk] at hf; omega)], hx1.trans hE5⟩
      refine lexQ rfl rfl rfl rfl (fun H hM => (yFieldAddr rfl Try.underlying63 rfl Try.sizeOf3 rfl rfl)) ?_
      refine lexQ rfl rfl rfl rfl (fun H hM => (yLoad rfl Try.underlying3 rfl rfl (hM.ext.cell (h4.cell rfl)))) ?_
      refine lexQ rfl rfl rfl rfl (fun H hM => (yFieldAddr rfl Try.underlying25 rfl Try.sizeOf3 rfl rfl)) ?_
      refine lexQ rfl rfl rfl rfl (fun H hM => (yLoad rfl Try.underlying3 rfl rfl (hM.ext.cell (h1.cell rfl)))) ?_
      refine lexQ rfl rfl rfl rfl (fun H hM => (yAdd rfl rfl rfl (by unfold In64; omega))) ?_
      refine lexQ rfl rfl rfl rfl (fun H hM => (yGtr rfl rfl rfl)) ?_
      refine lexQ rfl rfl rfl rfl (fun H hM => (yPickF (v := .bool _) rfl rfl rfl)) ?_
      first | refine lexG rfl rfl rfl rfl rfl rfl (fun h66 => ?_) (fun h66 => ?_) | refine lexGB rfl rfl rfl rfl rfl rfl (fun h66 => ?_) (fun h66 => ?_)
      · skip
        refine lexU rfl rfl rfl ?_
        refine lexU rfl rfl rfl ?_
        refine lexU rfl rfl rfl ?_
        refine lexU rfl rfl rfl ?_
        refine lexU rfl rfl rfl ?_
        refine lexU rfl rfl rfl ?_
        refine lexU rfl rfl rfl ?_
        refine lexU rfl rfl rfl ?_
        refine lexU rfl rfl rfl ?_
        refine lexU rfl rfl rfl ?_
        refine lexU rfl rfl rfl ?_
        refine lexU rfl rfl rfl ?_
        refine lexNil0 rfl (fun hM => ?_)
        refine seqU rfl rfl ?_
        refine seqU rfl rfl ?_
        refine seqQ rfl rfl (yPickT (v := .bool _) rfl rfl rfl) ?_
        refine seqNil ?_
        refine hF16 _ _ ?_; clear hF16
        refine wpT rfl ?_
        refine wpSeq fun F19 hF19 => ?_
        refine wpRegion ?_
        refine seqQ rfl rfl (yAssign (v := .bool _) rfl rfl) ?_
        refine seqNil ?_
        refine hF19 _ _ ?_; clear hF19
        refine wpRet (fin1 (v := .bool _) rfl rfl ?_)
        exact ⟨by rw [decide_eq_false (hbad fun hf => by simp only [FOk, hgk] at hf; omega)], hx1.trans hE5⟩
      refine lexQ rfl rfl rfl rfl (fun H hM => (yMove (v := .int _ _) rfl rfl)) ?_
      refine lexQ rfl rfl rfl rfl (fun H hM => (yGtr rfl rfl rfl)) ?_
      -- guard t69
      have hnext : ∀ (hd : 0 < k → (l.lk.fly.getD (k - 1) (0, [])).1 ≤ l.fly[k].due), ∀ j, j < k + 1 → FOk l.now l.lk.fly j := fun hd j hj => by
        by_cases e : j = k
        · subst e
          unfold FOk
          rw [hgk]
          exact ⟨by show l.fly[j].data.length ≤ 1000; omega, by show l.now < l.fly[j].due; omega, by show l.fly[j].due ≤ l.now + 8; omega, hd⟩
        · exact ho j (by omega)
      refine lexG rfl rfl rfl rfl rfl rfl (fun h69 => ?_) (fun h69 => ?_)
      · skip
        have hk0 : 0 < k := by omega
        have hk1 : k - 1 < l.fly.length := by omega
        have hgk1 := getD_fl l hk1
        obtain ⟨p', ep', hp'⟩ := hrf.at hk1
        obtain rfl := Option.some.inj (ep.symm.trans ep')
        refine lexQ rfl rfl rfl rfl (fun H hM => (yFieldAddr rfl Try.underlying25 rfl Try.sizeOf23 rfl rfl)) ?_
        refine lexQ rfl rfl rfl rfl (fun H hM => (yLoad rfl Try.underlying23 rfl rfl (hM.ext.cell (h1.cell rfl)))) ?_
        refine lexQ rfl rfl rfl rfl (fun H hM => (yMove (v := .int _ _) rfl rfl)) ?_
        refine lexQ rfl rfl rfl rfl (fun H hM => (ySubE rfl rfl rfl (by unfold In64; omega) (show (k : Int) - 1 = ((k - 1 : Nat) : Int) by omega))) ?_
        refine lexQ rfl rfl rfl rfl (fun H hM => (yIdxP rfl Try.underlying23 Try.sizeOf63 rfl rfl ep rfl hk1)) ?_
        refine lexQ rfl rfl rfl rfl (fun H hM => (yFieldAddr rfl Try.underlying63 rfl Try.sizeOf3 rfl rfl)) ?_
        refine lexQ rfl rfl rfl rfl (fun H hM => (yLoad rfl Try.underlying3 rfl rfl (hM.ext.cell (hE5.cell (hp' 0 _ rfl))))) ?_
        refine lexQ rfl rfl rfl rfl (fun H hM => (yFieldAddr rfl Try.underlying63 rfl Try.sizeOf3 rfl rfl)) ?_
        refine lexQ rfl rfl rfl rfl (fun H hM => (yLoad rfl Try.underlying3 rfl rfl (hM.ext.cell (h4.cell rfl)))) ?_
        -- tail
        refine lexNil0 rfl (fun hM => ?_)
        refine seqQ rfl rfl (yGtr rfl rfl rfl) ?_
        refine seqQ rfl rfl (yPickT (v := .bool _) rfl rfl rfl) ?_
        refine seqQ rfl rfl (yPickF (v := .bool _) rfl rfl rfl) ?_
        refine seqNil ?_
        refine hF16 _ _ ?_; clear hF16
        -- if t81
        refine wpIf rfl (fun hlast => ?_) (fun hlast => ?_)
        · skip
          refine wpSeq fun F20 hF20 => ?_
          refine wpRegion ?_
          refine seqQ rfl rfl (yAssign (v := .bool _) rfl rfl) ?_
          refine seqNil ?_
          refine hF20 _ _ ?_; clear hF20
          -- ret
          refine wpRet (fin1 (v := .bool _) rfl rfl ?_)
          exact ⟨by rw [decide_eq_false (hbad fun hf => by simp only [FOk, hgk, hgk1] at hf; omega)], hx1.trans hE5⟩
        · skip
          refine wpSkip ?_
          refine hF14 _ _ ?_; clear hF14
          refine wpRegion ?_
          refine seqQ rfl rfl (yMove (v := .int _ _) rfl rfl) ?_
          refine seqQ rfl rfl (yAdd rfl rfl rfl (by unfold In64; omega)) ?_
          refine seqQ rfl rfl (yAssign (v := .int _ _) rfl rfl) ?_
          refine seqNil ?_
          -- end loop
          exact loopEnd (k + 1) (by repeat (first | (with_reducible exact Agree.refl _ _) | refine Agree.upd ?_ rfl | refine Agree.over ?_ rfl)) (by omega) ⟨rfl, trivial⟩ ⟨hk, hnext (fun _ => by rw [hgk1]; show l.fly[k - 1].due ≤ _; omega), hE5⟩
      · skip
        refine lexU rfl rfl rfl ?_
        refine lexU rfl rfl rfl ?_
        refine lexU rfl rfl rfl ?_
        refine lexU rfl rfl rfl ?_
        refine lexU rfl rfl rfl ?_
        refine lexU rfl rfl rfl ?_
        refine lexU rfl rfl rfl ?_
        refine lexU rfl rfl rfl ?_
        refine lexU rfl rfl rfl ?_
        -- tail
        refine lexNil0 rfl (fun hM => ?_)
        refine seqU rfl rfl ?_
        refine seqQ rfl rfl (yPickF (v := .bool _) rfl rfl rfl) ?_
        refine seqQ rfl rfl (yPickF (v := .bool _) rfl rfl rfl) ?_
        refine seqNil ?_
        refine hF16 _ _ ?_; clear hF16
        -- if t81
        refine wpF rfl ?_
        refine wpSkip ?_
        refine hF14 _ _ ?_; clear hF14
        refine wpRegion ?_
        refine seqQ rfl rfl (yMove (v := .int _ _) rfl rfl) ?_
        refine seqQ rfl rfl (yAdd rfl rfl rfl (by unfold In64; omega)) ?_
        refine seqQ rfl rfl (yAssign (v := .int _ _) rfl rfl) ?_
        refine seqNil ?_
        -- end loop
        exact loopEnd (k + 1) (by repeat (first | (with_reducible exact Agree.refl _ _) | refine Agree.upd ?_ rfl | refine Agree.over ?_ rfl)) (by omega) ⟨rfl, trivial⟩ ⟨hk, hnext (fun h0 => by omega), hE5⟩
    · skip
      obtain rfl : k = l.fly.length := by omega
      refine wpExit ?_
      refine hF10 _ _ ?_; clear hF10
      refine wpSeq fun F21 hF21 => ?_
      refine wpRegion ?_
      refine seqQ rfl rfl (yAssign (v := .bool _) rfl rfl) ?_
      refine seqNil ?_
      refine hF21 _ _ ?_; clear hF21
      -- ret
      refine wpRet (fin1 (v := .bool _) rfl rfl ?_)
      refine ⟨?_, hx1.trans hE⟩
      congr 1
      rw [eq_comm, decide_eq_true_eq]
      exact ⟨hpat, hnow, hsent, by omega, fun j hj => ho j (by omega)⟩

/-- The delays of the copies. -/
def delays (p : UInt8) : List Int := if p.toNat % 8 = 4 then [] else if p.toNat % 8 = 5 then [1 + (p.toNat / 8 % 4 : Nat), 2 + 2 * (p.toNat / 8 % 4 : Nat)] else if p.toNat % 8 = 6 then [5 + (p.toNat / 8 % 4 : Nat)] else [1 + (p.toNat / 8 % 4 : Nat)]
set_option maxRecDepth 100000 in
theorem delays_rng {p : UInt8} {d : Int} (h : d ∈ delays p) : 1 ≤ d ∧ d ≤ 8 := by
  unfold delays at h
  split at h
  · cases h
  · split at h
    · simp only [List.mem_cons, List.not_mem_nil, or_false] at h
      omega
    · split at h
      · simp only [List.mem_cons, List.not_mem_nil, or_false] at h
        omega
      · simp only [List.mem_cons, List.not_mem_nil, or_false] at h
        omega
set_option maxRecDepth 100000 in
theorem delays_len (p : UInt8) : (delays p).length ≤ 2 := by
  unfold delays
  split
  · simp
  · split
    · simp
    · split <;> simp
set_option maxRecDepth 100000 in
theorem delays_c (p : UInt8) (H : Heap) : CallsH Try.prog 14 [.int .u8 (p.toNat : Int)] H fun v H' => Own eInt 3 H' H.size v (delays p) ∧ Ext H H' := by
  have hp := p.toNat_lt
  refine callsH_of Try.func14 rfl Try.ntmps14 (Nat.le_of_ble_eq_true rfl) ?_
  refine wpSeq fun F1 hF1 => ?_
  refine wpRegion ?_
  refine seqQ rfl rfl (yAssign (v := .slice _ _ _) rfl rfl) ?_
  refine seqNil ?_
  refine hF1 _ _ ?_; clear hF1
  refine wpSeq fun F2 hF2 => ?_
  refine wpRegion ?_
  refine seqQ rfl rfl (yMove (v := .int _ _) rfl rfl) ?_
  refine seqQ rfl rfl (yConv rfl Try.underlying5 Try.underlying3 rfl (IntWalk.i64_in _ (by omega))) ?_
  refine seqQ rfl rfl (yQuo rfl rfl rfl (by omega)) ?_
  refine seqQ rfl rfl (yRem rfl rfl rfl (by omega)) ?_
  refine seqQ rfl rfl (yAssign (v := .int _ _) rfl rfl) ?_
  refine seqNil ?_
  refine hF2 _ _ ?_; clear hF2
  refine wpSeq fun F3 hF3 => ?_
  refine wpSeq fun F4 hF4 => ?_
  refine wpRegion ?_
  refine seqQ rfl rfl (yMove (v := .int _ _) rfl rfl) ?_
  refine seqQ rfl rfl (yRem rfl rfl rfl (by omega)) ?_
  refine seqNil ?_
  refine hF4 _ _ ?_; clear hF4
  refine wpBlock ?_
  refine wpSeq fun F5 hF5 => ?_
  refine wpRegion ?_
  refine seqQ rfl rfl (yEql rfl rfl rfl) ?_
  refine seqQ rfl rfl (yAssign (v := .bool _) rfl rfl) ?_
  refine seqNil ?_
  refine hF5 _ _ ?_; clear hF5
  -- if t10
  refine wpIf rfl (fun h4 => ?_) (fun h4 => ?_)
  · skip
    have h4 : p.toNat % 8 = 4 := by omega
    refine wpSeq fun F6 hF6 => ?_
    refine wpRegion ?_
    refine seqQ rfl rfl (yAssign (v := .slice _ _ _) rfl rfl) ?_
    refine seqNil ?_
    refine hF6 _ _ ?_; clear hF6
    -- ret
    refine wpRet (fin1 (v := .slice _ _ _) rfl rfl ?_)
    unfold delays
    rw [if_pos h4]
    exact ⟨Own.nil _ _, Ext.refl _⟩
  · skip
    refine wpSeq fun F7 hF7 => ?_
    refine wpRegion ?_
    refine seqQ rfl rfl (yEql rfl rfl rfl) ?_
    refine seqQ rfl rfl (yAssign (v := .bool _) rfl rfl) ?_
    refine seqNil ?_
    refine hF7 _ _ ?_; clear hF7
    -- if t12
    refine wpIf rfl (fun h5 => ?_) (fun h5 => ?_)
    · skip
      have h5 : p.toNat % 8 = 5 := by omega
      refine wpSeq fun F8 hF8 => ?_
      refine wpRegion ?_
      refine seqQ rfl rfl (yMove (v := .int _ _) rfl rfl) ?_
      refine seqQ rfl rfl (yAdd rfl rfl rfl (by unfold In64; omega)) ?_
      refine seqQ rfl rfl (yMove (v := .int _ _) rfl rfl) ?_
      refine seqQ rfl rfl (yMul rfl rfl rfl (by unfold In64; omega)) ?_
      refine seqQ rfl rfl (yAdd rfl rfl rfl (by unfold In64; omega)) ?_
      refine seqN rfl rfl (nBuildSlice (vs := [.int _ _, .int _ _]) rfl Try.underlying37 Try.sizeOf3 Try.zeroValue3 rfl rfl rfl rfl) (fun g19 H19 hx19 hB19 hg19 hl19 => ?_)
      refine seqQ rfl rfl (yAssign (v := .slice _ _ _) rfl rfl) ?_
      refine seqNil ?_
      refine hF8 _ _ ?_; clear hF8
      -- ret
      refine wpRet (fin1 (v := .slice _ _ _) rfl rfl ?_)
      unfold delays
      rw [if_neg (by omega), if_pos h5]
      refine ⟨Own.lit (c := eInt) (l := [1 + ((p.toNat / 8 % 4 : Nat) : Int), 2 + 2 * ((p.toNat / 8 % 4 : Nat) : Int)]) ?_ hg19 (by simp), hx19⟩
      have e : (p.toNat : Int) / 8 % 4 = ((p.toNat / 8 % 4 : Nat) : Int) := by omega
      rw [e] at hB19
      exact hB19
    · skip
      refine wpSeq fun F9 hF9 => ?_
      refine wpRegion ?_
      refine seqQ rfl rfl (yEql rfl rfl rfl) ?_
      refine seqQ rfl rfl (yAssign (v := .bool _) rfl rfl) ?_
      refine seqNil ?_
      refine hF9 _ _ ?_; clear hF9
      -- if t20
      refine wpIf rfl (fun h6 => ?_) (fun h6 => ?_)
      · skip
        have h6 : p.toNat % 8 = 6 := by omega
        refine wpSeq fun F10 hF10 => ?_
        refine wpRegion ?_
        refine seqQ rfl rfl (yMove (v := .int _ _) rfl rfl) ?_
        refine seqQ rfl rfl (yAdd rfl rfl rfl (by unfold In64; omega)) ?_
        refine seqN rfl rfl (nBuildSlice (vs := [.int _ _]) rfl Try.underlying37 Try.sizeOf3 Try.zeroValue3 rfl rfl rfl rfl) (fun g24 H24 hx24 hB24 hg24 hl24 => ?_)
        refine seqQ rfl rfl (yAssign (v := .slice _ _ _) rfl rfl) ?_
        refine seqNil ?_
        refine hF10 _ _ ?_; clear hF10
        -- ret
        refine wpRet (fin1 (v := .slice _ _ _) rfl rfl ?_)
        unfold delays
        rw [if_neg (by omega), if_neg (by omega), if_pos h6]
        refine ⟨Own.lit (c := eInt) (l := [5 + ((p.toNat / 8 % 4 : Nat) : Int)]) ?_ hg24 (by simp), hx24⟩
        have e : (p.toNat : Int) / 8 % 4 = ((p.toNat / 8 % 4 : Nat) : Int) := by omega
        rw [e] at hB24
        exact hB24
      · skip
        refine wpSkip ?_
        refine hF3 _ _ ?_; clear hF3
        refine wpSeq fun F11 hF11 => ?_
        refine wpRegion ?_
        refine seqQ rfl rfl (yMove (v := .int _ _) rfl rfl) ?_
        refine seqQ rfl rfl (yAdd rfl rfl rfl (by unfold In64; omega)) ?_
        refine seqN rfl rfl (nBuildSlice (vs := [.int _ _]) rfl Try.underlying37 Try.sizeOf3 Try.zeroValue3 rfl rfl rfl rfl) (fun g27 H27 hx27 hB27 hg27 hl27 => ?_)
        refine seqQ rfl rfl (yAssign (v := .slice _ _ _) rfl rfl) ?_
        refine seqNil ?_
        refine hF11 _ _ ?_; clear hF11
        -- ret
        refine wpRet (fin1 (v := .slice _ _ _) rfl rfl ?_)
        unfold delays
        rw [if_neg (by omega), if_neg (by omega), if_neg (by omega)]
        refine ⟨Own.lit (c := eInt) (l := [1 + ((p.toNat / 8 % 4 : Nat) : Int)]) ?_ hg27 (by simp), hx27⟩
        have e : (p.toNat : Int) / 8 % 4 = ((p.toNat / 8 % 4 : Nat) : Int) := by omega
        rw [e] at hB27
        exact hB27
set_option maxRecDepth 100000 in
theorem rDelays_c (p : UInt8) (H : Heap) : CallsH Try.prog 15 [.int .u8 (p.toNat : Int)] H fun v H' => Own eInt 3 H' H.size v (delays p) ∧ Ext H H' := by
  have hp := p.toNat_lt
  refine callsH_of Try.func15 rfl Try.ntmps15 (Nat.le_of_ble_eq_true rfl) ?_
  refine wpSeq fun F1 hF1 => ?_
  refine wpRegion ?_
  refine seqQ rfl rfl (yAssign (v := .slice _ _ _) rfl rfl) ?_
  refine seqNil ?_
  refine hF1 _ _ ?_; clear hF1
  refine wpSeq fun F2 hF2 => ?_
  refine wpRegion ?_
  refine seqQ rfl rfl (yMove (v := .int _ _) rfl rfl) ?_
  refine seqQ rfl rfl (yConv rfl Try.underlying5 Try.underlying3 rfl (IntWalk.i64_in _ (by omega))) ?_
  refine seqQ rfl rfl (yQuo rfl rfl rfl (by omega)) ?_
  refine seqQ rfl rfl (yRem rfl rfl rfl (by omega)) ?_
  refine seqQ rfl rfl (yAssign (v := .int _ _) rfl rfl) ?_
  refine seqNil ?_
  refine hF2 _ _ ?_; clear hF2
  refine wpSeq fun F3 hF3 => ?_
  refine wpSeq fun F4 hF4 => ?_
  refine wpRegion ?_
  refine seqQ rfl rfl (yMove (v := .int _ _) rfl rfl) ?_
  refine seqQ rfl rfl (yRem rfl rfl rfl (by omega)) ?_
  refine seqNil ?_
  refine hF4 _ _ ?_; clear hF4
  refine wpBlock ?_
  refine wpSeq fun F5 hF5 => ?_
  refine wpRegion ?_
  refine seqQ rfl rfl (yEql rfl rfl rfl) ?_
  refine seqQ rfl rfl (yAssign (v := .bool _) rfl rfl) ?_
  refine seqNil ?_
  refine hF5 _ _ ?_; clear hF5
  -- if t10
  refine wpIf rfl (fun h4 => ?_) (fun h4 => ?_)
  · skip
    have h4 : p.toNat % 8 = 4 := by omega
    refine wpSeq fun F6 hF6 => ?_
    refine wpRegion ?_
    refine seqQ rfl rfl (yAssign (v := .slice _ _ _) rfl rfl) ?_
    refine seqNil ?_
    refine hF6 _ _ ?_; clear hF6
    -- ret
    refine wpRet (fin1 (v := .slice _ _ _) rfl rfl ?_)
    unfold delays
    rw [if_pos h4]
    exact ⟨Own.nil _ _, Ext.refl _⟩
  · skip
    refine wpSeq fun F7 hF7 => ?_
    refine wpRegion ?_
    refine seqQ rfl rfl (yEql rfl rfl rfl) ?_
    refine seqQ rfl rfl (yAssign (v := .bool _) rfl rfl) ?_
    refine seqNil ?_
    refine hF7 _ _ ?_; clear hF7
    -- if t12
    refine wpIf rfl (fun h5 => ?_) (fun h5 => ?_)
    · skip
      have h5 : p.toNat % 8 = 5 := by omega
      refine wpSeq fun F8 hF8 => ?_
      refine wpRegion ?_
      refine seqQ rfl rfl (yMove (v := .int _ _) rfl rfl) ?_
      refine seqQ rfl rfl (yAdd rfl rfl rfl (by unfold In64; omega)) ?_
      refine seqQ rfl rfl (yMove (v := .int _ _) rfl rfl) ?_
      refine seqQ rfl rfl (yMul rfl rfl rfl (by unfold In64; omega)) ?_
      refine seqQ rfl rfl (yAdd rfl rfl rfl (by unfold In64; omega)) ?_
      refine seqN rfl rfl (nBuildSlice (vs := [.int _ _, .int _ _]) rfl Try.underlying37 Try.sizeOf3 Try.zeroValue3 rfl rfl rfl rfl) (fun g19 H19 hx19 hB19 hg19 hl19 => ?_)
      refine seqQ rfl rfl (yAssign (v := .slice _ _ _) rfl rfl) ?_
      refine seqNil ?_
      refine hF8 _ _ ?_; clear hF8
      -- ret
      refine wpRet (fin1 (v := .slice _ _ _) rfl rfl ?_)
      unfold delays
      rw [if_neg (by omega), if_pos h5]
      refine ⟨Own.lit (c := eInt) (l := [1 + ((p.toNat / 8 % 4 : Nat) : Int), 2 + 2 * ((p.toNat / 8 % 4 : Nat) : Int)]) ?_ hg19 (by simp), hx19⟩
      have e : (p.toNat : Int) / 8 % 4 = ((p.toNat / 8 % 4 : Nat) : Int) := by omega
      rw [e] at hB19
      exact hB19
    · skip
      refine wpSeq fun F9 hF9 => ?_
      refine wpRegion ?_
      refine seqQ rfl rfl (yEql rfl rfl rfl) ?_
      refine seqQ rfl rfl (yAssign (v := .bool _) rfl rfl) ?_
      refine seqNil ?_
      refine hF9 _ _ ?_; clear hF9
      -- if t20
      refine wpIf rfl (fun h6 => ?_) (fun h6 => ?_)
      · skip
        have h6 : p.toNat % 8 = 6 := by omega
        refine wpSeq fun F10 hF10 => ?_
        refine wpRegion ?_
        refine seqQ rfl rfl (yMove (v := .int _ _) rfl rfl) ?_
        refine seqQ rfl rfl (yAdd rfl rfl rfl (by unfold In64; omega)) ?_
        refine seqN rfl rfl (nBuildSlice (vs := [.int _ _]) rfl Try.underlying37 Try.sizeOf3 Try.zeroValue3 rfl rfl rfl rfl) (fun g24 H24 hx24 hB24 hg24 hl24 => ?_)
        refine seqQ rfl rfl (yAssign (v := .slice _ _ _) rfl rfl) ?_
        refine seqNil ?_
        refine hF10 _ _ ?_; clear hF10
        -- ret
        refine wpRet (fin1 (v := .slice _ _ _) rfl rfl ?_)
        unfold delays
        rw [if_neg (by omega), if_neg (by omega), if_pos h6]
        refine ⟨Own.lit (c := eInt) (l := [5 + ((p.toNat / 8 % 4 : Nat) : Int)]) ?_ hg24 (by simp), hx24⟩
        have e : (p.toNat : Int) / 8 % 4 = ((p.toNat / 8 % 4 : Nat) : Int) := by omega
        rw [e] at hB24
        exact hB24
      · skip
        refine wpSkip ?_
        refine hF3 _ _ ?_; clear hF3
        refine wpSeq fun F11 hF11 => ?_
        refine wpRegion ?_
        refine seqQ rfl rfl (yMove (v := .int _ _) rfl rfl) ?_
        refine seqQ rfl rfl (yAdd rfl rfl rfl (by unfold In64; omega)) ?_
        refine seqN rfl rfl (nBuildSlice (vs := [.int _ _]) rfl Try.underlying37 Try.sizeOf3 Try.zeroValue3 rfl rfl rfl rfl) (fun g27 H27 hx27 hB27 hg27 hl27 => ?_)
        refine seqQ rfl rfl (yAssign (v := .slice _ _ _) rfl rfl) ?_
        refine seqNil ?_
        refine hF11 _ _ ?_; clear hF11
        -- ret
        refine wpRet (fin1 (v := .slice _ _ _) rfl rfl ?_)
        unfold delays
        rw [if_neg (by omega), if_neg (by omega), if_neg (by omega)]
        refine ⟨Own.lit (c := eInt) (l := [1 + ((p.toNat / 8 % 4 : Nat) : Int)]) ?_ hg27 (by simp), hx27⟩
        have e : (p.toNat : Int) / 8 % 4 = ((p.toNat / 8 % 4 : Nat) : Int) := by omega
        rw [e] at hB27
        exact hB27
end Go.Proofs.Ytckbcfldjniafaa
