/- The document's packets: Equal, Few, Valid. -/
import Derived.Test.YtohjmobnnjjekaaK5
namespace Go.Proofs.Ytohjmobnnjjekaa
open Go.RowKit

set_option maxRecDepth 100000 in
theorem in_c (n lo hi : Int) (H : Heap) : CallsH Try.prog 34 [.int .i64 n, .int .i64 lo, .int .i64 hi] H fun v H' => v = .bool (decide (lo ≤ n ∧ n ≤ hi)) ∧ H' = H := by
  refine callsH_of Try.func34 rfl Try.ntmps34 (Nat.le_of_ble_eq_true rfl) ?_
  refine wpSeq fun F1 hF1 => ?_
  refine wpRegion ?_
  refine seqQ rfl rfl (yAssign (v := .bool _) rfl rfl) ?_
  refine seqNil ?_
  refine hF1 _ _ ?_; clear hF1
  refine wpSeq fun F2 hF2 => ?_
  refine wpRegion ?_
  refine seqQ rfl rfl (yMove (v := .int _ _) rfl rfl) ?_
  refine seqQ rfl rfl (yMove (v := .int _ _) rfl rfl) ?_
  refine seqQ rfl rfl (yGeq rfl rfl rfl) ?_
  first | refine seqG rfl rfl rfl rfl (fun h10 => ?_) (fun h10 => ?_) | refine seqGB rfl rfl rfl rfl (fun h10 => ?_) (fun h10 => ?_)
  rotate_left
  · skip
    refine seqU rfl rfl ?_
    refine seqU rfl rfl ?_
    refine seqU rfl rfl ?_
    refine seqQ rfl rfl (yPickF (v := .bool _) rfl rfl rfl) ?_
    refine seqQ rfl rfl (yAssign (v := .bool _) rfl rfl) ?_
    refine seqNil ?_
    refine hF2 _ _ ?_; clear hF2
    refine wpRet (fin1 (v := .bool _) rfl rfl ?_)
    exact ⟨by congr 1; grind, rfl⟩
  refine seqQ rfl rfl (yMove (v := .int _ _) rfl rfl) ?_
  refine seqQ rfl rfl (yMove (v := .int _ _) rfl rfl) ?_
  refine seqQ rfl rfl (yLeq rfl rfl rfl) ?_
  refine seqQ rfl rfl (yPickT (v := .bool _) rfl rfl rfl) ?_
  refine seqQ rfl rfl (yAssign (v := .bool _) rfl rfl) ?_
  refine seqNil ?_
  refine hF2 _ _ ?_; clear hF2
  -- ret
  refine wpRet (fin1 (v := .bool _) rfl rfl ?_)
  exact ⟨by congr 1; grind, rfl⟩
set_option maxRecDepth 100000 in
theorem pair_c (p : Pk) (A B : Option Addr) (ca cb : Nat) (H : Heap) :
    CallsH Try.prog 35 [.agg (pkC p A ca B cb).toArray] H fun v H' => v = .bool (decide ((0 ≤ p.src ∧ p.src ≤ 5) ∧ (0 ≤ p.dst ∧ p.dst ≤ 5) ∧ p.src ≠ p.dst)) ∧ Ext H H' := by
  refine callsH_of Try.func35 rfl Try.ntmps35 (Nat.le_of_ble_eq_true rfl) ?_
  refine wpSeq fun F1 hF1 => ?_
  refine wpRegion ?_
  refine seqN rfl rfl (nBoxA rfl rfl) (fun g1 H1 hx1 hB1 hg1 hl1 => ?_)
  refine seqQ rfl rfl (yAssign (v := .bool _) rfl rfl) ?_
  refine seqNil ?_
  refine hF1 _ _ ?_; clear hF1
  refine wpSeq fun F2 hF2 => ?_
  refine wpRegion ?_
  refine seqQ rfl rfl (yFieldAddr rfl Try.underlying25 rfl Try.sizeOf3 rfl rfl) ?_
  refine seqQ rfl rfl (yLoad rfl Try.underlying3 rfl rfl (hB1.cell rfl)) ?_
  -- e slot 5: call F34<farandole/farandoleref46.in> t4 [i:i64:0] [i:i64:5]
  refine seqE rfl rfl (stepCall rfl Try.call34 rfl ?_)
  refine (in_c p.src 0 5 _).mono ?_
  rintro v H' ⟨rfl, rfl⟩
  first | refine seqG rfl rfl rfl rfl (fun h6 => ?_) (fun h6 => ?_) | refine seqGB rfl rfl rfl rfl (fun h6 => ?_) (fun h6 => ?_)
  rotate_left
  · skip
    refine seqU rfl rfl ?_
    refine seqU rfl rfl ?_
    refine seqU rfl rfl ?_
    refine seqQ rfl rfl (yPickF (v := .bool _) rfl rfl rfl) ?_
    refine seqQ rfl rfl (yMove (v := .bool false) rfl rfl) ?_
    refine seqU rfl rfl ?_
    refine seqU rfl rfl ?_
    refine seqU rfl rfl ?_
    refine seqU rfl rfl ?_
    refine seqU rfl rfl ?_
    refine seqQ rfl rfl (yPickF (v := .bool _) rfl rfl rfl) ?_
    refine seqQ rfl rfl (yAssign (v := .bool _) rfl rfl) ?_
    refine seqNil ?_
    refine hF2 _ _ ?_; clear hF2
    refine wpRet (fin1 (v := .bool _) rfl rfl ?_)
    exact ⟨by congr 1; grind, hx1⟩
  refine seqQ rfl rfl (yFieldAddr rfl Try.underlying25 rfl Try.sizeOf3 rfl rfl) ?_
  refine seqQ rfl rfl (yLoad rfl Try.underlying3 rfl rfl (hB1.cell rfl)) ?_
  -- e slot 9: call F34<farandole/farandoleref46.in> t8 [i:i64:0] [i:i64:5]
  refine seqE rfl rfl (stepCall rfl Try.call34 rfl ?_)
  refine (in_c p.dst 0 5 _).mono ?_
  rintro v H' ⟨rfl, rfl⟩
  refine seqQ rfl rfl (yPickT (v := .bool _) rfl rfl rfl) ?_
  first | refine seqG rfl rfl rfl rfl (fun h11 => ?_) (fun h11 => ?_) | refine seqGB rfl rfl rfl rfl (fun h11 => ?_) (fun h11 => ?_)
  rotate_left
  · skip
    refine seqU rfl rfl ?_
    refine seqU rfl rfl ?_
    refine seqU rfl rfl ?_
    refine seqU rfl rfl ?_
    refine seqU rfl rfl ?_
    refine seqQ rfl rfl (yPickF (v := .bool _) rfl rfl rfl) ?_
    refine seqQ rfl rfl (yAssign (v := .bool _) rfl rfl) ?_
    refine seqNil ?_
    refine hF2 _ _ ?_; clear hF2
    refine wpRet (fin1 (v := .bool _) rfl rfl ?_)
    exact ⟨by congr 1; grind, hx1⟩
  refine seqQ rfl rfl (yFieldAddr rfl Try.underlying25 rfl Try.sizeOf3 rfl rfl) ?_
  refine seqQ rfl rfl (yLoad rfl Try.underlying3 rfl rfl (hB1.cell rfl)) ?_
  refine seqQ rfl rfl (yFieldAddr rfl Try.underlying25 rfl Try.sizeOf3 rfl rfl) ?_
  refine seqQ rfl rfl (yLoad rfl Try.underlying3 rfl rfl (hB1.cell rfl)) ?_
  refine seqQ rfl rfl (yNeq rfl rfl rfl) ?_
  refine seqQ rfl rfl (yPickT (v := .bool _) rfl rfl rfl) ?_
  refine seqQ rfl rfl (yAssign (v := .bool _) rfl rfl) ?_
  refine seqNil ?_
  refine hF2 _ _ ?_; clear hF2
  -- ret
  refine wpRet (fin1 (v := .bool _) rfl rfl ?_)
  exact ⟨by congr 1; grind, hx1⟩
def properR (v : PVal) : Bool := decide (v.1 = 1 ∧ v.2.2 = ByteArray.empty ∨ v.1 = 2 ∧ v.2.1 = 0)
set_option maxRecDepth 100000 in
theorem properR_c (v : PVal) (H : Heap) : CallsH Try.prog 64 [.agg (eVal.F v).toArray] H fun r H' => r = .bool (properR v) ∧ Ext H H' := by
  refine callsH_of Try.func64 rfl Try.ntmps64 (Nat.le_of_ble_eq_true rfl) ?_
  by_cases h1 : v.1 = 1
  · skip
    by_cases h2 : v.2.2 = ByteArray.empty
    · skip
      refine wpSeq fun F1 hF1 => ?_
      refine wpRegion ?_
      refine seqN rfl rfl (nBoxA rfl rfl) (fun g1 H1 hx1 hB1 hg1 hl1 => ?_)
      refine seqQ rfl rfl (yAssign (v := .bool _) rfl rfl) ?_
      refine seqNil ?_
      refine hF1 _ _ ?_; clear hF1
      refine wpSeq fun F2 hF2 => ?_
      refine wpRegion ?_
      refine seqQ rfl rfl (yFieldAddr rfl Try.underlying52 rfl Try.sizeOf3 rfl rfl) ?_
      refine seqQ rfl rfl (yLoad rfl Try.underlying3 rfl rfl (hB1.cell rfl)) ?_
      refine seqQ rfl rfl (yEql rfl rfl rfl) ?_
      -- guard t6
      rw [decide_eq_true h1]
      refine seqQ rfl rfl (yMove (v := .bool true) rfl rfl) ?_
      refine seqQ rfl rfl (yFieldAddr rfl Try.underlying52 rfl Try.sizeOf9 rfl rfl) ?_
      refine seqQ rfl rfl (yLoad rfl Try.underlying9 rfl rfl (hB1.cell rfl)) ?_
      refine seqQ rfl rfl (yEqlS rfl rfl rfl) ?_
      refine seqQ rfl rfl (yPickT (v := .bool _) rfl rfl rfl) ?_
      -- guard t11
      rw [show (decide (v.2.2 = ⟨#[]⟩)) = true from decide_eq_true h2]
      refine seqQ rfl rfl (yMove (v := .bool true) rfl rfl) ?_
      refine seqU rfl rfl ?_
      refine seqU rfl rfl ?_
      refine seqU rfl rfl ?_
      refine seqU rfl rfl ?_
      refine seqU rfl rfl ?_
      refine seqU rfl rfl ?_
      refine seqU rfl rfl ?_
      refine seqU rfl rfl ?_
      refine seqQ rfl rfl (yPickT (v := .bool _) rfl rfl rfl) ?_
      refine seqQ rfl rfl (yAssign (v := .bool _) rfl rfl) ?_
      refine seqNil ?_
      refine hF2 _ _ ?_; clear hF2
      -- ret
      refine wpRet (fin1 (v := .bool _) rfl rfl ?_)
      exact ⟨by simp [properR, h1, h2], hx1⟩
    · skip
      refine wpSeq fun F3 hF3 => ?_
      refine wpRegion ?_
      refine seqN rfl rfl (nBoxA rfl rfl) (fun g1 H1 hx1 hB1 hg1 hl1 => ?_)
      refine seqQ rfl rfl (yAssign (v := .bool _) rfl rfl) ?_
      refine seqNil ?_
      refine hF3 _ _ ?_; clear hF3
      refine wpSeq fun F4 hF4 => ?_
      refine wpRegion ?_
      refine seqQ rfl rfl (yFieldAddr rfl Try.underlying52 rfl Try.sizeOf3 rfl rfl) ?_
      refine seqQ rfl rfl (yLoad rfl Try.underlying3 rfl rfl (hB1.cell rfl)) ?_
      refine seqQ rfl rfl (yEql rfl rfl rfl) ?_
      -- guard t6
      rw [decide_eq_true h1]
      refine seqQ rfl rfl (yMove (v := .bool true) rfl rfl) ?_
      refine seqQ rfl rfl (yFieldAddr rfl Try.underlying52 rfl Try.sizeOf9 rfl rfl) ?_
      refine seqQ rfl rfl (yLoad rfl Try.underlying9 rfl rfl (hB1.cell rfl)) ?_
      refine seqQ rfl rfl (yEqlS rfl rfl rfl) ?_
      refine seqQ rfl rfl (yPickT (v := .bool _) rfl rfl rfl) ?_
      -- guard t11
      rw [show (decide (v.2.2 = ⟨#[]⟩)) = false from decide_eq_false h2]
      refine seqQ rfl rfl (yMove (v := .bool false) rfl rfl) ?_
      refine seqQ rfl rfl (yFieldAddr rfl Try.underlying52 rfl Try.sizeOf3 rfl rfl) ?_
      refine seqQ rfl rfl (yLoad rfl Try.underlying3 rfl rfl (hB1.cell rfl)) ?_
      refine seqQ rfl rfl (yEql rfl rfl rfl) ?_
      -- guard t15
      rw [show (decide (v.1 = 2)) = false from decide_eq_false (by omega)]
      refine seqQ rfl rfl (yMove (v := .bool false) rfl rfl) ?_
      refine seqU rfl rfl ?_
      refine seqU rfl rfl ?_
      refine seqU rfl rfl ?_
      refine seqQ rfl rfl (yPickF (v := .bool _) rfl rfl rfl) ?_
      refine seqQ rfl rfl (yPickF (v := .bool _) rfl rfl rfl) ?_
      refine seqQ rfl rfl (yAssign (v := .bool _) rfl rfl) ?_
      refine seqNil ?_
      refine hF4 _ _ ?_; clear hF4
      -- ret
      refine wpRet (fin1 (v := .bool _) rfl rfl ?_)
      exact ⟨by simp [properR, h1, h2], hx1⟩
  · skip
    refine wpSeq fun F5 hF5 => ?_
    refine wpRegion ?_
    refine seqN rfl rfl (nBoxA rfl rfl) (fun g1 H1 hx1 hB1 hg1 hl1 => ?_)
    refine seqQ rfl rfl (yAssign (v := .bool _) rfl rfl) ?_
    refine seqNil ?_
    refine hF5 _ _ ?_; clear hF5
    refine wpSeq fun F6 hF6 => ?_
    refine wpRegion ?_
    refine seqQ rfl rfl (yFieldAddr rfl Try.underlying52 rfl Try.sizeOf3 rfl rfl) ?_
    refine seqQ rfl rfl (yLoad rfl Try.underlying3 rfl rfl (hB1.cell rfl)) ?_
    refine seqQ rfl rfl (yEql rfl rfl rfl) ?_
    -- guard t6
    rw [decide_eq_false h1]
    refine seqQ rfl rfl (yMove (v := .bool false) rfl rfl) ?_
    refine seqU rfl rfl ?_
    refine seqU rfl rfl ?_
    refine seqU rfl rfl ?_
    refine seqQ rfl rfl (yPickF (v := .bool _) rfl rfl rfl) ?_
    refine seqQ rfl rfl (yMove (v := .bool false) rfl rfl) ?_
    refine seqQ rfl rfl (yFieldAddr rfl Try.underlying52 rfl Try.sizeOf3 rfl rfl) ?_
    refine seqQ rfl rfl (yLoad rfl Try.underlying3 rfl rfl (hB1.cell rfl)) ?_
    refine seqQ rfl rfl (yEql rfl rfl rfl) ?_
    -- guard t15
    by_cases h3 : v.1 = 2
    · skip
      rw [decide_eq_true h3]
      refine seqQ rfl rfl (yMove (v := .bool true) rfl rfl) ?_
      refine seqQ rfl rfl (yFieldAddr rfl Try.underlying52 rfl Try.sizeOf3 rfl rfl) ?_
      refine seqQ rfl rfl (yLoad rfl Try.underlying3 rfl rfl (hB1.cell rfl)) ?_
      refine seqQ rfl rfl (yEql rfl rfl rfl) ?_
      refine seqQ rfl rfl (yPickT (v := .bool _) rfl rfl rfl) ?_
      refine seqQ rfl rfl (yPickF (v := .bool _) rfl rfl rfl) ?_
      refine seqQ rfl rfl (yAssign (v := .bool _) rfl rfl) ?_
      refine seqNil ?_
      refine hF6 _ _ ?_; clear hF6
      -- ret
      refine wpRet (fin1 (v := .bool _) rfl rfl ?_)
      exact ⟨by simp [properR, h3], hx1⟩
    · skip
      rw [decide_eq_false h3]
      refine seqQ rfl rfl (yMove (v := .bool false) rfl rfl) ?_
      refine seqU rfl rfl ?_
      refine seqU rfl rfl ?_
      refine seqU rfl rfl ?_
      refine seqQ rfl rfl (yPickF (v := .bool _) rfl rfl rfl) ?_
      refine seqQ rfl rfl (yPickF (v := .bool _) rfl rfl rfl) ?_
      refine seqQ rfl rfl (yAssign (v := .bool _) rfl rfl) ?_
      refine seqNil ?_
      refine hF6 _ _ ?_; clear hF6
      -- ret
      refine wpRet (fin1 (v := .bool _) rfl rfl ?_)
      exact ⟨by simp [properR, h1, h3], hx1⟩

set_option maxRecDepth 100000 in
theorem sameI_c (A B : Option Addr) (ca cb : Nat) (a b : List Int) (H : Heap) (hA : Rd eInt H A a) (hB : Rd eInt H B b) (ha : a.length ≤ 1000000000) :
    CallsH Try.prog 21 [.slice A a.length ca, .slice B b.length cb] H fun v H' => v = .bool (decide (a = b)) ∧ H' = H := by
  refine callsH_of Try.func21 rfl Try.ntmps21 (Nat.le_of_ble_eq_true rfl) ?_
  refine wpSeq fun F1 hF1 => ?_
  refine wpRegion ?_
  refine seqQ rfl rfl (yAssign (v := .bool _) rfl rfl) ?_
  refine seqNil ?_
  refine hF1 _ _ ?_; clear hF1
  refine wpSeq fun F2 hF2 => ?_
  refine wpSeq fun F3 hF3 => ?_
  refine wpRegion ?_
  refine seqQ rfl rfl (yMove (v := .slice _ _ _) rfl rfl) ?_
  refine seqQ rfl rfl (yLen rfl Try.underlying23 rfl) ?_
  refine seqQ rfl rfl (yMove (v := .slice _ _ _) rfl rfl) ?_
  refine seqQ rfl rfl (yLen rfl Try.underlying23 rfl) ?_
  refine seqQ rfl rfl (yNeq rfl rfl rfl) ?_
  refine seqNil ?_
  refine hF3 _ _ ?_; clear hF3
  -- if t10
  refine wpCond rfl (fun hl => ?_) (fun hl => ?_)
  · skip
    refine wpSeq fun F4 hF4 => ?_
    refine wpRegion ?_
    refine seqQ rfl rfl (yAssign (v := .bool _) rfl rfl) ?_
    refine seqNil ?_
    refine hF4 _ _ ?_; clear hF4
    -- ret
    refine wpRet (fin1 (v := .bool _) rfl rfl ?_)
    have hl : a.length ≠ b.length := by simp at hl; omega
    exact ⟨by rw [decide_eq_false (fun e => hl (by rw [e]))], rfl⟩
  · skip
    have hl : a.length = b.length := by simp at hl; omega
    refine wpSkip ?_
    refine hF2 _ _ ?_; clear hF2
    refine wpSeq fun F5 hF5 => ?_
    refine wpSeq fun F6 hF6 => ?_
    refine wpRegion ?_
    refine seqQ rfl rfl (yAssign (v := .int _ _) rfl rfl) ?_
    refine seqNil ?_
    refine hF6 _ _ ?_; clear hF6
    -- loop
    refine wpBlock ?_
    refine wpLoopS [4, 5, 11, 12, 13, 14, 15, 16, 17, 18, 19, 20, 21, 22, 23, 24, 25] (fun k : Nat => [(5, .int .i64 k)]) (fun k H' => k ≤ a.length ∧ a.take k = b.take k ∧ H' = H) (fun k => a.length - k) 0 ⟨rfl, trivial⟩ ⟨Nat.zero_le _, rfl, rfl⟩ ?_
    rintro k J H' ⟨hk, he, rfl⟩
    refine wpSeq fun F7 hF7 => ?_
    refine wpSeq fun F8 hF8 => ?_
    refine wpRegion ?_
    refine seqQ rfl rfl (yMove (v := .int _ _) rfl rfl) ?_
    refine seqQ rfl rfl (yMove (v := .slice _ _ _) rfl rfl) ?_
    refine seqQ rfl rfl (yLen rfl Try.underlying23 rfl) ?_
    refine seqQ rfl rfl (yLss rfl rfl rfl) ?_
    refine seqNil ?_
    refine hF8 _ _ ?_; clear hF8
    -- if t14
    refine wpIf rfl (fun hlt => ?_) (fun hlt => ?_)
    · skip
      have hka : k < a.length := by omega
      have hkb : k < b.length := by omega
      obtain ⟨p, rfl, hp⟩ := hA.at1 hka
      obtain ⟨q, rfl, hq⟩ := hB.at1 hkb
      refine wpSkip ?_
      refine hF7 _ _ ?_; clear hF7
      refine wpSeq fun F9 hF9 => ?_
      refine wpBlock ?_
      refine wpSeq fun F10 hF10 => ?_
      refine wpRegionD Try_mixed [.q, .q, .q, .q, .q, .q, .q, .q, .q] 8 [0, 0, 3, 7, 0, 0, 48, 112, 255] [] (by kernel_rfl) _ rfl [0, 1, 2, 3, 4, 5, 6, 7] rfl (by simp) ?_
      refine lexQ rfl rfl rfl rfl (fun H hM => (yMove (v := .slice _ _ _) rfl rfl)) ?_
      refine lexQ rfl rfl rfl rfl (fun H hM => (yMove (v := .int _ _) rfl rfl)) ?_
      refine lexQ rfl rfl rfl rfl (fun H hM => (yIdx1 rfl Try.underlying23 Try.sizeOf3 rfl rfl rfl (by omega))) ?_
      refine lexQ rfl rfl rfl rfl (fun H hM => (yLoad rfl Try.underlying3 rfl rfl (hM.ext.cell hp))) ?_
      refine lexQ rfl rfl rfl rfl (fun H hM => (yMove (v := .slice _ _ _) rfl rfl)) ?_
      refine lexQ rfl rfl rfl rfl (fun H hM => (yMove (v := .int _ _) rfl rfl)) ?_
      refine lexQ rfl rfl rfl rfl (fun H hM => (yIdx1 rfl Try.underlying23 Try.sizeOf3 rfl rfl rfl (by omega))) ?_
      refine lexQ rfl rfl rfl rfl (fun H hM => (yLoad rfl Try.underlying3 rfl rfl (hM.ext.cell hq))) ?_
      -- tail
      refine lexNil0 rfl (fun hM => ?_)
      refine seqQ rfl rfl (yNeq rfl rfl rfl) ?_
      refine seqNil ?_
      refine hF10 _ _ ?_; clear hF10
      -- if t25
      refine wpCond rfl (fun hn => ?_) (fun hn => ?_)
      · skip
        have hn : a[k] ≠ b[k] := by simpa using hn
        refine wpSeq fun F11 hF11 => ?_
        refine wpRegion ?_
        refine seqQ rfl rfl (yAssign (v := .bool _) rfl rfl) ?_
        refine seqNil ?_
        refine hF11 _ _ ?_; clear hF11
        -- ret
        refine wpRet (fin1 (v := .bool _) rfl rfl ?_)
        exact ⟨by rw [decide_eq_false (fun e => hn (by simp [e]))], rfl⟩
      · skip
        have hn : a[k] = b[k] := by simpa using hn
        refine wpSkip ?_
        refine hF9 _ _ ?_; clear hF9
        refine wpRegion ?_
        refine seqQ rfl rfl (yMove (v := .int _ _) rfl rfl) ?_
        refine seqQ rfl rfl (yAdd rfl rfl rfl (by unfold In64; omega)) ?_
        refine seqQ rfl rfl (yAssign (v := .int _ _) rfl rfl) ?_
        refine seqNil ?_
        -- end loop
        exact loopEnd (k + 1) (by repeat (first | (with_reducible exact Agree.refl _ _) | refine Agree.upd ?_ rfl | refine Agree.over ?_ rfl)) (by omega) ⟨rfl, trivial⟩ ⟨hka, by rw [List.take_succ_eq_append_getElem hka, List.take_succ_eq_append_getElem hkb, he, hn], rfl⟩
    · skip
      obtain rfl : k = a.length := by omega
      refine wpExit ?_
      refine hF5 _ _ ?_; clear hF5
      refine wpSeq fun F12 hF12 => ?_
      refine wpRegion ?_
      refine seqQ rfl rfl (yAssign (v := .bool _) rfl rfl) ?_
      refine seqNil ?_
      refine hF12 _ _ ?_; clear hF12
      -- ret
      refine wpRet (fin1 (v := .bool _) rfl rfl ?_)
      rw [List.take_length, hl, List.take_length] at he
      exact ⟨by rw [decide_eq_true he], rfl⟩
set_option maxRecDepth 100000 in
theorem sameV_c (A B : Option Addr) (ca cb : Nat) (a b : List PVal) (H : Heap) (hA : Rd eVal H A a) (hB : Rd eVal H B b) (ha : a.length ≤ 1000000000) :
    CallsH Try.prog 22 [.slice A a.length ca, .slice B b.length cb] H fun v H' => v = .bool (decide (a = b)) ∧ H' = H := by
  refine callsH_of Try.func22 rfl Try.ntmps22 (Nat.le_of_ble_eq_true rfl) ?_
  refine wpSeq fun F1 hF1 => ?_
  refine wpRegion ?_
  refine seqQ rfl rfl (yAssign (v := .bool _) rfl rfl) ?_
  refine seqNil ?_
  refine hF1 _ _ ?_; clear hF1
  refine wpSeq fun F2 hF2 => ?_
  refine wpSeq fun F3 hF3 => ?_
  refine wpRegion ?_
  refine seqQ rfl rfl (yMove (v := .slice _ _ _) rfl rfl) ?_
  refine seqQ rfl rfl (yLen rfl Try.underlying22 rfl) ?_
  refine seqQ rfl rfl (yMove (v := .slice _ _ _) rfl rfl) ?_
  refine seqQ rfl rfl (yLen rfl Try.underlying22 rfl) ?_
  refine seqQ rfl rfl (yNeq rfl rfl rfl) ?_
  refine seqNil ?_
  refine hF3 _ _ ?_; clear hF3
  -- if t10
  refine wpCond rfl (fun hl => ?_) (fun hl => ?_)
  · skip
    refine wpSeq fun F4 hF4 => ?_
    refine wpRegion ?_
    refine seqQ rfl rfl (yAssign (v := .bool _) rfl rfl) ?_
    refine seqNil ?_
    refine hF4 _ _ ?_; clear hF4
    -- ret
    refine wpRet (fin1 (v := .bool _) rfl rfl ?_)
    have hl : a.length ≠ b.length := by simp at hl; omega
    exact ⟨by rw [decide_eq_false (fun e => hl (by rw [e]))], rfl⟩
  · skip
    have hl : a.length = b.length := by simp at hl; omega
    refine wpSkip ?_
    refine hF2 _ _ ?_; clear hF2
    refine wpSeq fun F5 hF5 => ?_
    refine wpSeq fun F6 hF6 => ?_
    refine wpRegion ?_
    refine seqQ rfl rfl (yAssign (v := .int _ _) rfl rfl) ?_
    refine seqNil ?_
    refine hF6 _ _ ?_; clear hF6
    -- loop
    refine wpBlock ?_
    refine wpLoopS [4, 5, 11, 12, 13, 14, 15, 16, 17, 18, 19, 20, 21, 22, 23, 24, 25] (fun k : Nat => [(5, .int .i64 k)]) (fun k H' => k ≤ a.length ∧ a.take k = b.take k ∧ H' = H) (fun k => a.length - k) 0 ⟨rfl, trivial⟩ ⟨Nat.zero_le _, rfl, rfl⟩ ?_
    rintro k J H' ⟨hk, he, rfl⟩
    refine wpSeq fun F7 hF7 => ?_
    refine wpSeq fun F8 hF8 => ?_
    refine wpRegion ?_
    refine seqQ rfl rfl (yMove (v := .int _ _) rfl rfl) ?_
    refine seqQ rfl rfl (yMove (v := .slice _ _ _) rfl rfl) ?_
    refine seqQ rfl rfl (yLen rfl Try.underlying22 rfl) ?_
    refine seqQ rfl rfl (yLss rfl rfl rfl) ?_
    refine seqNil ?_
    refine hF8 _ _ ?_; clear hF8
    -- if t14
    refine wpIf rfl (fun hlt => ?_) (fun hlt => ?_)
    · skip
      have hka : k < a.length := by omega
      have hkb : k < b.length := by omega
      obtain ⟨p, rfl, hp⟩ := hA.at hka
      obtain ⟨q, rfl, hq⟩ := hB.at hkb
      refine wpSkip ?_
      refine hF7 _ _ ?_; clear hF7
      refine wpSeq fun F9 hF9 => ?_
      refine wpBlock ?_
      refine wpSeq fun F10 hF10 => ?_
      refine wpRegionD Try_mixed [.q, .q, .q, .q, .q, .q, .q, .q, .q] 8 [0, 0, 3, 7, 0, 0, 48, 112, 255] [] (by kernel_rfl) _ rfl [0, 1, 2, 3, 4, 5, 6, 7] rfl (by simp) ?_
      refine lexQ rfl rfl rfl rfl (fun H hM => (yMove (v := .slice _ _ _) rfl rfl)) ?_
      refine lexQ rfl rfl rfl rfl (fun H hM => (yMove (v := .int _ _) rfl rfl)) ?_
      refine lexQ rfl rfl rfl rfl (fun H hM => (yIdx rfl Try.underlying22 Try.sizeOf52 rfl rfl rfl (by omega))) ?_
      refine lexQ rfl rfl rfl rfl (fun H hM => (yLoadC (cs := eVal.F a[k]) rfl Try.underlying52 rfl Try.sizeOf52 rfl (fun j u hu => hM.ext.cell (hp j u hu)))) ?_
      refine lexQ rfl rfl rfl rfl (fun H hM => (yMove (v := .slice _ _ _) rfl rfl)) ?_
      refine lexQ rfl rfl rfl rfl (fun H hM => (yMove (v := .int _ _) rfl rfl)) ?_
      refine lexQ rfl rfl rfl rfl (fun H hM => (yIdx rfl Try.underlying22 Try.sizeOf52 rfl rfl rfl (by omega))) ?_
      refine lexQ rfl rfl rfl rfl (fun H hM => (yLoadC (cs := eVal.F b[k]) rfl Try.underlying52 rfl Try.sizeOf52 rfl (fun j u hu => hM.ext.cell (hq j u hu)))) ?_
      -- tail
      refine lexNil0 rfl (fun hM => ?_)
      refine seqQ rfl rfl (yNeqVal rfl rfl rfl) ?_
      refine seqNil ?_
      refine hF10 _ _ ?_; clear hF10
      -- if t25
      refine wpCond rfl (fun hn => ?_) (fun hn => ?_)
      · skip
        have hn : a[k] ≠ b[k] := by simpa using hn
        refine wpSeq fun F11 hF11 => ?_
        refine wpRegion ?_
        refine seqQ rfl rfl (yAssign (v := .bool _) rfl rfl) ?_
        refine seqNil ?_
        refine hF11 _ _ ?_; clear hF11
        -- ret
        refine wpRet (fin1 (v := .bool _) rfl rfl ?_)
        exact ⟨by rw [decide_eq_false (fun e => hn (by simp [e]))], rfl⟩
      · skip
        have hn : a[k] = b[k] := by simpa using hn
        refine wpSkip ?_
        refine hF9 _ _ ?_; clear hF9
        refine wpRegion ?_
        refine seqQ rfl rfl (yMove (v := .int _ _) rfl rfl) ?_
        refine seqQ rfl rfl (yAdd rfl rfl rfl (by unfold In64; omega)) ?_
        refine seqQ rfl rfl (yAssign (v := .int _ _) rfl rfl) ?_
        refine seqNil ?_
        -- end loop
        exact loopEnd (k + 1) (by repeat (first | (with_reducible exact Agree.refl _ _) | refine Agree.upd ?_ rfl | refine Agree.over ?_ rfl)) (by omega) ⟨rfl, trivial⟩ ⟨hka, by rw [List.take_succ_eq_append_getElem hka, List.take_succ_eq_append_getElem hkb, he, hn], rfl⟩
    · skip
      obtain rfl : k = a.length := by omega
      refine wpExit ?_
      refine hF5 _ _ ?_; clear hF5
      refine wpSeq fun F12 hF12 => ?_
      refine wpRegion ?_
      refine seqQ rfl rfl (yAssign (v := .bool _) rfl rfl) ?_
      refine seqNil ?_
      refine hF12 _ _ ?_; clear hF12
      -- ret
      refine wpRet (fin1 (v := .bool _) rfl rfl ?_)
      rw [List.take_length, hl, List.take_length] at he
      exact ⟨by rw [decide_eq_true he], rfl⟩
set_option maxRecDepth 100000 in
theorem rEqual_c (p q : Pk) (A B C D : Option Addr) (ca cb cc cd : Nat) (H : Heap) (hA : Rd eVal H A p.vals) (hB : Rd eInt H B p.clk) (hC : Rd eVal H C q.vals) (hD : Rd eInt H D q.clk) (h1 : p.vals.length ≤ 1000000000) (h2 : p.clk.length ≤ 1000000000) :
    CallsH Try.prog 15 [.agg (pkC p A ca B cb).toArray, .agg (pkC q C cc D cd).toArray] H fun v H' => v = .bool (decide (p = q)) ∧ Ext H H' := by
  refine callsH_of Try.func15 rfl Try.ntmps15 (Nat.le_of_ble_eq_true rfl) ?_
  refine wpSeq fun F1 hF1 => ?_
  refine wpRegion ?_
  refine seqN rfl rfl (nBoxA rfl rfl) (fun g2 H2 hx2 hB2 hg2 hl2 => ?_)
  refine seqN rfl rfl (nBoxA rfl rfl) (fun g3 H3 hx3 hB3 hg3 hl3 => ?_)
  refine seqQ rfl rfl (yAssign (v := .bool _) rfl rfl) ?_
  refine seqNil ?_
  refine hF1 _ _ ?_; clear hF1
  refine wpSeq fun F2 hF2 => ?_
  refine wpRegion ?_
  refine seqQ rfl rfl (yFieldAddr rfl Try.underlying25 rfl Try.sizeOf3 rfl rfl) ?_
  refine seqQ rfl rfl (yLoad rfl Try.underlying3 rfl rfl ((hB2.ext hx3).cell rfl)) ?_
  refine seqQ rfl rfl (yFieldAddr rfl Try.underlying25 rfl Try.sizeOf3 rfl rfl) ?_
  refine seqQ rfl rfl (yLoad rfl Try.underlying3 rfl rfl (hB3.cell rfl)) ?_
  refine seqQ rfl rfl (yEql rfl rfl rfl) ?_
  first | refine seqG rfl rfl rfl rfl (fun h10 => ?_) (fun h10 => ?_) | refine seqGB rfl rfl rfl rfl (fun h10 => ?_) (fun h10 => ?_)
  rotate_left
  · skip
    refine seqU rfl rfl ?_
    refine seqU rfl rfl ?_
    refine seqU rfl rfl ?_
    refine seqU rfl rfl ?_
    refine seqU rfl rfl ?_
    refine seqQ rfl rfl (yPickF (v := .bool _) rfl rfl rfl) ?_
    refine seqQ rfl rfl (yMove (v := .bool false) rfl rfl) ?_
    refine seqU rfl rfl ?_
    refine seqU rfl rfl ?_
    refine seqU rfl rfl ?_
    refine seqU rfl rfl ?_
    refine seqU rfl rfl ?_
    refine seqQ rfl rfl (yPickF (v := .bool _) rfl rfl rfl) ?_
    refine seqQ rfl rfl (yMove (v := .bool false) rfl rfl) ?_
    refine seqU rfl rfl ?_
    refine seqU rfl rfl ?_
    refine seqU rfl rfl ?_
    refine seqU rfl rfl ?_
    refine seqU rfl rfl ?_
    refine seqQ rfl rfl (yPickF (v := .bool _) rfl rfl rfl) ?_
    refine seqQ rfl rfl (yMove (v := .bool false) rfl rfl) ?_
    refine seqU rfl rfl ?_
    refine seqU rfl rfl ?_
    refine seqU rfl rfl ?_
    refine seqU rfl rfl ?_
    refine seqU rfl rfl ?_
    refine seqQ rfl rfl (yPickF (v := .bool _) rfl rfl rfl) ?_
    refine seqQ rfl rfl (yMove (v := .bool false) rfl rfl) ?_
    refine seqU rfl rfl ?_
    refine seqU rfl rfl ?_
    refine seqU rfl rfl ?_
    refine seqU rfl rfl ?_
    refine seqU rfl rfl ?_
    refine seqQ rfl rfl (yPickF (v := .bool _) rfl rfl rfl) ?_
    refine seqQ rfl rfl (yMove (v := .bool false) rfl rfl) ?_
    refine seqU rfl rfl ?_
    refine seqU rfl rfl ?_
    refine seqU rfl rfl ?_
    refine seqU rfl rfl ?_
    refine seqU rfl rfl ?_
    refine seqQ rfl rfl (yPickF (v := .bool _) rfl rfl rfl) ?_
    refine seqQ rfl rfl (yMove (v := .bool false) rfl rfl) ?_
    refine seqU rfl rfl ?_
    refine seqU rfl rfl ?_
    refine seqU rfl rfl ?_
    refine seqU rfl rfl ?_
    refine seqU rfl rfl ?_
    refine seqQ rfl rfl (yPickF (v := .bool _) rfl rfl rfl) ?_
    refine seqQ rfl rfl (yMove (v := .bool false) rfl rfl) ?_
    refine seqU rfl rfl ?_
    refine seqU rfl rfl ?_
    refine seqU rfl rfl ?_
    refine seqU rfl rfl ?_
    refine seqU rfl rfl ?_
    refine seqQ rfl rfl (yPickF (v := .bool _) rfl rfl rfl) ?_
    refine seqQ rfl rfl (yAssign (v := .bool _) rfl rfl) ?_
    refine seqNil ?_
    refine hF2 _ _ ?_; clear hF2
    refine wpRet (fin1 (v := .bool _) rfl rfl ?_)
    exact ⟨by rw [decide_eq_false (by rw [Pk.eq_iff]; simp [*])], hx2.trans hx3⟩
  refine seqQ rfl rfl (yFieldAddr rfl Try.underlying25 rfl Try.sizeOf3 rfl rfl) ?_
  refine seqQ rfl rfl (yLoad rfl Try.underlying3 rfl rfl ((hB2.ext hx3).cell rfl)) ?_
  refine seqQ rfl rfl (yFieldAddr rfl Try.underlying25 rfl Try.sizeOf3 rfl rfl) ?_
  refine seqQ rfl rfl (yLoad rfl Try.underlying3 rfl rfl (hB3.cell rfl)) ?_
  refine seqQ rfl rfl (yEql rfl rfl rfl) ?_
  refine seqQ rfl rfl (yPickT (v := .bool _) rfl rfl rfl) ?_
  first | refine seqG rfl rfl rfl rfl (fun h17 => ?_) (fun h17 => ?_) | refine seqGB rfl rfl rfl rfl (fun h17 => ?_) (fun h17 => ?_)
  rotate_left
  · skip
    refine seqU rfl rfl ?_
    refine seqU rfl rfl ?_
    refine seqU rfl rfl ?_
    refine seqU rfl rfl ?_
    refine seqU rfl rfl ?_
    refine seqQ rfl rfl (yPickF (v := .bool _) rfl rfl rfl) ?_
    refine seqQ rfl rfl (yMove (v := .bool false) rfl rfl) ?_
    refine seqU rfl rfl ?_
    refine seqU rfl rfl ?_
    refine seqU rfl rfl ?_
    refine seqU rfl rfl ?_
    refine seqU rfl rfl ?_
    refine seqQ rfl rfl (yPickF (v := .bool _) rfl rfl rfl) ?_
    refine seqQ rfl rfl (yMove (v := .bool false) rfl rfl) ?_
    refine seqU rfl rfl ?_
    refine seqU rfl rfl ?_
    refine seqU rfl rfl ?_
    refine seqU rfl rfl ?_
    refine seqU rfl rfl ?_
    refine seqQ rfl rfl (yPickF (v := .bool _) rfl rfl rfl) ?_
    refine seqQ rfl rfl (yMove (v := .bool false) rfl rfl) ?_
    refine seqU rfl rfl ?_
    refine seqU rfl rfl ?_
    refine seqU rfl rfl ?_
    refine seqU rfl rfl ?_
    refine seqU rfl rfl ?_
    refine seqQ rfl rfl (yPickF (v := .bool _) rfl rfl rfl) ?_
    refine seqQ rfl rfl (yMove (v := .bool false) rfl rfl) ?_
    refine seqU rfl rfl ?_
    refine seqU rfl rfl ?_
    refine seqU rfl rfl ?_
    refine seqU rfl rfl ?_
    refine seqU rfl rfl ?_
    refine seqQ rfl rfl (yPickF (v := .bool _) rfl rfl rfl) ?_
    refine seqQ rfl rfl (yMove (v := .bool false) rfl rfl) ?_
    refine seqU rfl rfl ?_
    refine seqU rfl rfl ?_
    refine seqU rfl rfl ?_
    refine seqU rfl rfl ?_
    refine seqU rfl rfl ?_
    refine seqQ rfl rfl (yPickF (v := .bool _) rfl rfl rfl) ?_
    refine seqQ rfl rfl (yMove (v := .bool false) rfl rfl) ?_
    refine seqU rfl rfl ?_
    refine seqU rfl rfl ?_
    refine seqU rfl rfl ?_
    refine seqU rfl rfl ?_
    refine seqU rfl rfl ?_
    refine seqQ rfl rfl (yPickF (v := .bool _) rfl rfl rfl) ?_
    refine seqQ rfl rfl (yAssign (v := .bool _) rfl rfl) ?_
    refine seqNil ?_
    refine hF2 _ _ ?_; clear hF2
    refine wpRet (fin1 (v := .bool _) rfl rfl ?_)
    exact ⟨by rw [decide_eq_false (by rw [Pk.eq_iff]; simp [*])], hx2.trans hx3⟩
  refine seqQ rfl rfl (yFieldAddr rfl Try.underlying25 rfl Try.sizeOf3 rfl rfl) ?_
  refine seqQ rfl rfl (yLoad rfl Try.underlying3 rfl rfl ((hB2.ext hx3).cell rfl)) ?_
  refine seqQ rfl rfl (yFieldAddr rfl Try.underlying25 rfl Try.sizeOf3 rfl rfl) ?_
  refine seqQ rfl rfl (yLoad rfl Try.underlying3 rfl rfl (hB3.cell rfl)) ?_
  refine seqQ rfl rfl (yEql rfl rfl rfl) ?_
  refine seqQ rfl rfl (yPickT (v := .bool _) rfl rfl rfl) ?_
  first | refine seqG rfl rfl rfl rfl (fun h24 => ?_) (fun h24 => ?_) | refine seqGB rfl rfl rfl rfl (fun h24 => ?_) (fun h24 => ?_)
  rotate_left
  · skip
    refine seqU rfl rfl ?_
    refine seqU rfl rfl ?_
    refine seqU rfl rfl ?_
    refine seqU rfl rfl ?_
    refine seqU rfl rfl ?_
    refine seqQ rfl rfl (yPickF (v := .bool _) rfl rfl rfl) ?_
    refine seqQ rfl rfl (yMove (v := .bool false) rfl rfl) ?_
    refine seqU rfl rfl ?_
    refine seqU rfl rfl ?_
    refine seqU rfl rfl ?_
    refine seqU rfl rfl ?_
    refine seqU rfl rfl ?_
    refine seqQ rfl rfl (yPickF (v := .bool _) rfl rfl rfl) ?_
    refine seqQ rfl rfl (yMove (v := .bool false) rfl rfl) ?_
    refine seqU rfl rfl ?_
    refine seqU rfl rfl ?_
    refine seqU rfl rfl ?_
    refine seqU rfl rfl ?_
    refine seqU rfl rfl ?_
    refine seqQ rfl rfl (yPickF (v := .bool _) rfl rfl rfl) ?_
    refine seqQ rfl rfl (yMove (v := .bool false) rfl rfl) ?_
    refine seqU rfl rfl ?_
    refine seqU rfl rfl ?_
    refine seqU rfl rfl ?_
    refine seqU rfl rfl ?_
    refine seqU rfl rfl ?_
    refine seqQ rfl rfl (yPickF (v := .bool _) rfl rfl rfl) ?_
    refine seqQ rfl rfl (yMove (v := .bool false) rfl rfl) ?_
    refine seqU rfl rfl ?_
    refine seqU rfl rfl ?_
    refine seqU rfl rfl ?_
    refine seqU rfl rfl ?_
    refine seqU rfl rfl ?_
    refine seqQ rfl rfl (yPickF (v := .bool _) rfl rfl rfl) ?_
    refine seqQ rfl rfl (yMove (v := .bool false) rfl rfl) ?_
    refine seqU rfl rfl ?_
    refine seqU rfl rfl ?_
    refine seqU rfl rfl ?_
    refine seqU rfl rfl ?_
    refine seqU rfl rfl ?_
    refine seqQ rfl rfl (yPickF (v := .bool _) rfl rfl rfl) ?_
    refine seqQ rfl rfl (yAssign (v := .bool _) rfl rfl) ?_
    refine seqNil ?_
    refine hF2 _ _ ?_; clear hF2
    refine wpRet (fin1 (v := .bool _) rfl rfl ?_)
    exact ⟨by rw [decide_eq_false (by rw [Pk.eq_iff]; simp [*])], hx2.trans hx3⟩
  refine seqQ rfl rfl (yFieldAddr rfl Try.underlying25 rfl Try.sizeOf3 rfl rfl) ?_
  refine seqQ rfl rfl (yLoad rfl Try.underlying3 rfl rfl ((hB2.ext hx3).cell rfl)) ?_
  refine seqQ rfl rfl (yFieldAddr rfl Try.underlying25 rfl Try.sizeOf3 rfl rfl) ?_
  refine seqQ rfl rfl (yLoad rfl Try.underlying3 rfl rfl (hB3.cell rfl)) ?_
  refine seqQ rfl rfl (yEql rfl rfl rfl) ?_
  refine seqQ rfl rfl (yPickT (v := .bool _) rfl rfl rfl) ?_
  first | refine seqG rfl rfl rfl rfl (fun h31 => ?_) (fun h31 => ?_) | refine seqGB rfl rfl rfl rfl (fun h31 => ?_) (fun h31 => ?_)
  rotate_left
  · skip
    refine seqU rfl rfl ?_
    refine seqU rfl rfl ?_
    refine seqU rfl rfl ?_
    refine seqU rfl rfl ?_
    refine seqU rfl rfl ?_
    refine seqQ rfl rfl (yPickF (v := .bool _) rfl rfl rfl) ?_
    refine seqQ rfl rfl (yMove (v := .bool false) rfl rfl) ?_
    refine seqU rfl rfl ?_
    refine seqU rfl rfl ?_
    refine seqU rfl rfl ?_
    refine seqU rfl rfl ?_
    refine seqU rfl rfl ?_
    refine seqQ rfl rfl (yPickF (v := .bool _) rfl rfl rfl) ?_
    refine seqQ rfl rfl (yMove (v := .bool false) rfl rfl) ?_
    refine seqU rfl rfl ?_
    refine seqU rfl rfl ?_
    refine seqU rfl rfl ?_
    refine seqU rfl rfl ?_
    refine seqU rfl rfl ?_
    refine seqQ rfl rfl (yPickF (v := .bool _) rfl rfl rfl) ?_
    refine seqQ rfl rfl (yMove (v := .bool false) rfl rfl) ?_
    refine seqU rfl rfl ?_
    refine seqU rfl rfl ?_
    refine seqU rfl rfl ?_
    refine seqU rfl rfl ?_
    refine seqU rfl rfl ?_
    refine seqQ rfl rfl (yPickF (v := .bool _) rfl rfl rfl) ?_
    refine seqQ rfl rfl (yMove (v := .bool false) rfl rfl) ?_
    refine seqU rfl rfl ?_
    refine seqU rfl rfl ?_
    refine seqU rfl rfl ?_
    refine seqU rfl rfl ?_
    refine seqU rfl rfl ?_
    refine seqQ rfl rfl (yPickF (v := .bool _) rfl rfl rfl) ?_
    refine seqQ rfl rfl (yAssign (v := .bool _) rfl rfl) ?_
    refine seqNil ?_
    refine hF2 _ _ ?_; clear hF2
    refine wpRet (fin1 (v := .bool _) rfl rfl ?_)
    exact ⟨by rw [decide_eq_false (by rw [Pk.eq_iff]; simp [*])], hx2.trans hx3⟩
  refine seqQ rfl rfl (yFieldAddr rfl Try.underlying25 rfl Try.sizeOf3 rfl rfl) ?_
  refine seqQ rfl rfl (yLoad rfl Try.underlying3 rfl rfl ((hB2.ext hx3).cell rfl)) ?_
  refine seqQ rfl rfl (yFieldAddr rfl Try.underlying25 rfl Try.sizeOf3 rfl rfl) ?_
  refine seqQ rfl rfl (yLoad rfl Try.underlying3 rfl rfl (hB3.cell rfl)) ?_
  refine seqQ rfl rfl (yEql rfl rfl rfl) ?_
  refine seqQ rfl rfl (yPickT (v := .bool _) rfl rfl rfl) ?_
  first | refine seqG rfl rfl rfl rfl (fun h38 => ?_) (fun h38 => ?_) | refine seqGB rfl rfl rfl rfl (fun h38 => ?_) (fun h38 => ?_)
  rotate_left
  · skip
    refine seqU rfl rfl ?_
    refine seqU rfl rfl ?_
    refine seqU rfl rfl ?_
    refine seqU rfl rfl ?_
    refine seqU rfl rfl ?_
    refine seqQ rfl rfl (yPickF (v := .bool _) rfl rfl rfl) ?_
    refine seqQ rfl rfl (yMove (v := .bool false) rfl rfl) ?_
    refine seqU rfl rfl ?_
    refine seqU rfl rfl ?_
    refine seqU rfl rfl ?_
    refine seqU rfl rfl ?_
    refine seqU rfl rfl ?_
    refine seqQ rfl rfl (yPickF (v := .bool _) rfl rfl rfl) ?_
    refine seqQ rfl rfl (yMove (v := .bool false) rfl rfl) ?_
    refine seqU rfl rfl ?_
    refine seqU rfl rfl ?_
    refine seqU rfl rfl ?_
    refine seqU rfl rfl ?_
    refine seqU rfl rfl ?_
    refine seqQ rfl rfl (yPickF (v := .bool _) rfl rfl rfl) ?_
    refine seqQ rfl rfl (yMove (v := .bool false) rfl rfl) ?_
    refine seqU rfl rfl ?_
    refine seqU rfl rfl ?_
    refine seqU rfl rfl ?_
    refine seqU rfl rfl ?_
    refine seqU rfl rfl ?_
    refine seqQ rfl rfl (yPickF (v := .bool _) rfl rfl rfl) ?_
    refine seqQ rfl rfl (yAssign (v := .bool _) rfl rfl) ?_
    refine seqNil ?_
    refine hF2 _ _ ?_; clear hF2
    refine wpRet (fin1 (v := .bool _) rfl rfl ?_)
    exact ⟨by rw [decide_eq_false (by rw [Pk.eq_iff]; simp [*])], hx2.trans hx3⟩
  refine seqQ rfl rfl (yFieldAddr rfl Try.underlying25 rfl Try.sizeOf3 rfl rfl) ?_
  refine seqQ rfl rfl (yLoad rfl Try.underlying3 rfl rfl ((hB2.ext hx3).cell rfl)) ?_
  refine seqQ rfl rfl (yFieldAddr rfl Try.underlying25 rfl Try.sizeOf3 rfl rfl) ?_
  refine seqQ rfl rfl (yLoad rfl Try.underlying3 rfl rfl (hB3.cell rfl)) ?_
  refine seqQ rfl rfl (yEql rfl rfl rfl) ?_
  refine seqQ rfl rfl (yPickT (v := .bool _) rfl rfl rfl) ?_
  first | refine seqG rfl rfl rfl rfl (fun h45 => ?_) (fun h45 => ?_) | refine seqGB rfl rfl rfl rfl (fun h45 => ?_) (fun h45 => ?_)
  rotate_left
  · skip
    refine seqU rfl rfl ?_
    refine seqU rfl rfl ?_
    refine seqU rfl rfl ?_
    refine seqU rfl rfl ?_
    refine seqU rfl rfl ?_
    refine seqQ rfl rfl (yPickF (v := .bool _) rfl rfl rfl) ?_
    refine seqQ rfl rfl (yMove (v := .bool false) rfl rfl) ?_
    refine seqU rfl rfl ?_
    refine seqU rfl rfl ?_
    refine seqU rfl rfl ?_
    refine seqU rfl rfl ?_
    refine seqU rfl rfl ?_
    refine seqQ rfl rfl (yPickF (v := .bool _) rfl rfl rfl) ?_
    refine seqQ rfl rfl (yMove (v := .bool false) rfl rfl) ?_
    refine seqU rfl rfl ?_
    refine seqU rfl rfl ?_
    refine seqU rfl rfl ?_
    refine seqU rfl rfl ?_
    refine seqU rfl rfl ?_
    refine seqQ rfl rfl (yPickF (v := .bool _) rfl rfl rfl) ?_
    refine seqQ rfl rfl (yAssign (v := .bool _) rfl rfl) ?_
    refine seqNil ?_
    refine hF2 _ _ ?_; clear hF2
    refine wpRet (fin1 (v := .bool _) rfl rfl ?_)
    exact ⟨by rw [decide_eq_false (by rw [Pk.eq_iff]; simp [*])], hx2.trans hx3⟩
  refine seqQ rfl rfl (yFieldAddr rfl Try.underlying25 rfl Try.sizeOf3 rfl rfl) ?_
  refine seqQ rfl rfl (yLoad rfl Try.underlying3 rfl rfl ((hB2.ext hx3).cell rfl)) ?_
  refine seqQ rfl rfl (yFieldAddr rfl Try.underlying25 rfl Try.sizeOf3 rfl rfl) ?_
  refine seqQ rfl rfl (yLoad rfl Try.underlying3 rfl rfl (hB3.cell rfl)) ?_
  refine seqQ rfl rfl (yEql rfl rfl rfl) ?_
  refine seqQ rfl rfl (yPickT (v := .bool _) rfl rfl rfl) ?_
  first | refine seqG rfl rfl rfl rfl (fun h52 => ?_) (fun h52 => ?_) | refine seqGB rfl rfl rfl rfl (fun h52 => ?_) (fun h52 => ?_)
  rotate_left
  · skip
    refine seqU rfl rfl ?_
    refine seqU rfl rfl ?_
    refine seqU rfl rfl ?_
    refine seqU rfl rfl ?_
    refine seqU rfl rfl ?_
    refine seqQ rfl rfl (yPickF (v := .bool _) rfl rfl rfl) ?_
    refine seqQ rfl rfl (yMove (v := .bool false) rfl rfl) ?_
    refine seqU rfl rfl ?_
    refine seqU rfl rfl ?_
    refine seqU rfl rfl ?_
    refine seqU rfl rfl ?_
    refine seqU rfl rfl ?_
    refine seqQ rfl rfl (yPickF (v := .bool _) rfl rfl rfl) ?_
    refine seqQ rfl rfl (yAssign (v := .bool _) rfl rfl) ?_
    refine seqNil ?_
    refine hF2 _ _ ?_; clear hF2
    refine wpRet (fin1 (v := .bool _) rfl rfl ?_)
    exact ⟨by rw [decide_eq_false (by rw [Pk.eq_iff]; simp [*])], hx2.trans hx3⟩
  refine seqQ rfl rfl (yFieldAddr rfl Try.underlying25 rfl Try.sizeOf22 rfl rfl) ?_
  refine seqQ rfl rfl (yLoad rfl Try.underlying22 rfl rfl ((hB2.ext hx3).cell rfl)) ?_
  refine seqQ rfl rfl (yFieldAddr rfl Try.underlying25 rfl Try.sizeOf22 rfl rfl) ?_
  refine seqQ rfl rfl (yLoad rfl Try.underlying22 rfl rfl (hB3.cell rfl)) ?_
  -- e slot 57: call F22<farandole/farandoleref01.SameValues> t54 t56
  refine seqE rfl rfl (stepCall rfl Try.call22 rfl ?_)
  refine (sameV_c A C ca cc p.vals q.vals _ ((hA.ext hx2).ext hx3) ((hC.ext hx2).ext hx3) h1).mono ?_
  rintro v H1 ⟨rfl, rfl⟩
  refine seqQ rfl rfl (yPickT (v := .bool _) rfl rfl rfl) ?_
  first | refine seqG rfl rfl rfl rfl (fun h59 => ?_) (fun h59 => ?_) | refine seqGB rfl rfl rfl rfl (fun h59 => ?_) (fun h59 => ?_)
  rotate_left
  · skip
    refine seqU rfl rfl ?_
    refine seqU rfl rfl ?_
    refine seqU rfl rfl ?_
    refine seqU rfl rfl ?_
    refine seqU rfl rfl ?_
    refine seqQ rfl rfl (yPickF (v := .bool _) rfl rfl rfl) ?_
    refine seqQ rfl rfl (yAssign (v := .bool _) rfl rfl) ?_
    refine seqNil ?_
    refine hF2 _ _ ?_; clear hF2
    refine wpRet (fin1 (v := .bool _) rfl rfl ?_)
    exact ⟨by rw [decide_eq_false (by rw [Pk.eq_iff]; simp [*])], hx2.trans hx3⟩
  refine seqQ rfl rfl (yFieldAddr rfl Try.underlying25 rfl Try.sizeOf23 rfl rfl) ?_
  refine seqQ rfl rfl (yLoad rfl Try.underlying23 rfl rfl ((hB2.ext hx3).cell rfl)) ?_
  refine seqQ rfl rfl (yFieldAddr rfl Try.underlying25 rfl Try.sizeOf23 rfl rfl) ?_
  refine seqQ rfl rfl (yLoad rfl Try.underlying23 rfl rfl (hB3.cell rfl)) ?_
  -- e slot 64: call F21<farandole/farandoleref01.SameInts> t61 t63
  refine seqE rfl rfl (stepCall rfl Try.call21 rfl ?_)
  refine (sameI_c B D cb cd p.clk q.clk _ ((hB.ext hx2).ext hx3) ((hD.ext hx2).ext hx3) h2).mono ?_
  rintro v H1 ⟨rfl, rfl⟩
  refine seqQ rfl rfl (yPickT (v := .bool _) rfl rfl rfl) ?_
  refine seqQ rfl rfl (yAssign (v := .bool _) rfl rfl) ?_
  refine seqNil ?_
  refine hF2 _ _ ?_; clear hF2
  -- ret
  refine wpRet (fin1 (v := .bool _) rfl rfl ?_)
  refine ⟨?_, hx2.trans hx3⟩
  congr 1
  rw [Bool.eq_iff_iff]
  simp [Pk.eq_iff, *]
def FewP (p : Pk) : Prop := (∀ v ∈ p.vals, v.2.2.size ≤ 100) ∧ p.vals.length ≤ 10 ∧ p.clk.length ≤ 10
instance (p : Pk) : Decidable (FewP p) := by unfold FewP; infer_instance
set_option maxRecDepth 100000 in
theorem few_c (p : Pk) (A B : Option Addr) (ca cb : Nat) (H : Heap) (hA : Rd eVal H A p.vals) (hl : p.vals.length ≤ 9223372036854775807) :
    CallsH Try.prog 10 [.agg (pkC p A ca B cb).toArray] H fun v H' => v = .bool (decide (FewP p)) ∧ Ext H H' := by
  refine callsH_of Try.func10 rfl Try.ntmps10 (Nat.le_of_ble_eq_true rfl) ?_
  refine wpSeq fun F1 hF1 => ?_
  refine wpRegion ?_
  refine seqN rfl rfl (nBoxA rfl rfl) (fun g1 H1 hx1 hB1 hg1 hl1 => ?_)
  refine seqQ rfl rfl (yAssign (v := .bool _) rfl rfl) ?_
  refine seqNil ?_
  refine hF1 _ _ ?_; clear hF1
  refine wpSeq fun F2 hF2 => ?_
  refine wpSeq fun F3 hF3 => ?_
  refine wpRegion ?_
  refine seqQ rfl rfl (yAssign (v := .int _ _) rfl rfl) ?_
  refine seqNil ?_
  refine hF3 _ _ ?_; clear hF3
  -- loop
  refine wpBlock ?_
  refine wpLoopS [2, 3, 4, 5, 6, 7, 8, 9, 10, 11, 12, 13, 14, 15, 16, 17, 18] (fun k : Nat => [(3, .int .i64 k)]) (fun k H' => k ≤ p.vals.length ∧ (∀ v ∈ p.vals.take k, v.2.2.size ≤ 100) ∧ H' = H1) (fun k => p.vals.length - k) 0 ⟨rfl, trivial⟩ ⟨Nat.zero_le _, by simp, rfl⟩ ?_
  rintro k J H' ⟨hk, he, rfl⟩
  refine wpSeq fun F4 hF4 => ?_
  refine wpSeq fun F5 hF5 => ?_
  refine wpRegion ?_
  refine seqQ rfl rfl (yMove (v := .int _ _) rfl rfl) ?_
  refine seqQ rfl rfl (yFieldAddr rfl Try.underlying25 rfl Try.sizeOf22 rfl rfl) ?_
  refine seqQ rfl rfl (yLoad rfl Try.underlying22 rfl rfl (hB1.cell rfl)) ?_
  refine seqQ rfl rfl (yLen rfl Try.underlying22 rfl) ?_
  refine seqQ rfl rfl (yLss rfl rfl rfl) ?_
  refine seqNil ?_
  refine hF5 _ _ ?_; clear hF5
  -- if t8
  refine wpIf rfl (fun hlt => ?_) (fun hlt => ?_)
  · skip
    have hka : k < p.vals.length := by omega
    obtain ⟨a, rfl, ha⟩ := hA.at hka
    refine wpSkip ?_
    refine hF4 _ _ ?_; clear hF4
    refine wpSeq fun F6 hF6 => ?_
    refine wpBlock ?_
    refine wpSeq fun F7 hF7 => ?_
    refine wpRegion ?_
    refine seqQ rfl rfl (yFieldAddr rfl Try.underlying25 rfl Try.sizeOf22 rfl rfl) ?_
    refine seqQ rfl rfl (yLoad rfl Try.underlying22 rfl rfl (hB1.cell rfl)) ?_
    refine seqQ rfl rfl (yMove (v := .int _ _) rfl rfl) ?_
    refine seqQ rfl rfl (yIdx rfl Try.underlying22 Try.sizeOf52 rfl rfl rfl hka) ?_
    refine seqQ rfl rfl (yFieldAddr rfl Try.underlying52 rfl Try.sizeOf9 rfl rfl) ?_
    refine seqQ rfl rfl (yLoad rfl Try.underlying9 rfl rfl (hx1.cell (ha 2 _ rfl))) ?_
    refine seqQ rfl rfl (yLenS rfl Try.underlying9 rfl) ?_
    refine seqQ rfl rfl (yGtr rfl rfl rfl) ?_
    refine seqNil ?_
    refine hF7 _ _ ?_; clear hF7
    -- if t18
    refine wpIf rfl (fun hs => ?_) (fun hs => ?_)
    · skip
      refine wpSeq fun F8 hF8 => ?_
      refine wpRegion ?_
      refine seqQ rfl rfl (yAssign (v := .bool _) rfl rfl) ?_
      refine seqNil ?_
      refine hF8 _ _ ?_; clear hF8
      -- ret
      refine wpRet (fin1 (v := .bool _) rfl rfl ?_)
      exact ⟨by rw [decide_eq_false (fun h => by have := h.1 _ (List.getElem_mem hka); omega)], hx1⟩
    · skip
      refine wpSkip ?_
      refine hF6 _ _ ?_; clear hF6
      refine wpRegion ?_
      refine seqQ rfl rfl (yMove (v := .int _ _) rfl rfl) ?_
      refine seqQ rfl rfl (yAdd rfl rfl rfl (by unfold In64; omega)) ?_
      refine seqQ rfl rfl (yAssign (v := .int _ _) rfl rfl) ?_
      refine seqNil ?_
      -- end loop
      exact loopEnd (k + 1) (by repeat (first | (with_reducible exact Agree.refl _ _) | refine Agree.upd ?_ rfl | refine Agree.over ?_ rfl)) (by omega) ⟨rfl, trivial⟩ ⟨hka, fun v hv => by
        rw [List.take_succ_eq_append_getElem hka] at hv
        rcases List.mem_append.1 hv with hv | hv
        · exact he v hv
        · simp at hv; subst hv; omega, rfl⟩
  · skip
    obtain rfl : k = p.vals.length := by omega
    rw [List.take_length] at he
    refine wpExit ?_
    refine hF2 _ _ ?_; clear hF2
    refine wpSeq fun F9 hF9 => ?_
    refine wpRegion ?_
    refine seqQ rfl rfl (yFieldAddr rfl Try.underlying25 rfl Try.sizeOf22 rfl rfl) ?_
    refine seqQ rfl rfl (yLoad rfl Try.underlying22 rfl rfl (hB1.cell rfl)) ?_
    refine seqQ rfl rfl (yLen rfl Try.underlying22 rfl) ?_
    refine seqQ rfl rfl (yLeq rfl rfl rfl) ?_
    first | refine seqG rfl rfl rfl rfl (fun h23 => ?_) (fun h23 => ?_) | refine seqGB rfl rfl rfl rfl (fun h23 => ?_) (fun h23 => ?_)
    rotate_left
    · skip
      refine seqU rfl rfl ?_
      refine seqU rfl rfl ?_
      refine seqU rfl rfl ?_
      refine seqU rfl rfl ?_
      refine seqQ rfl rfl (yPickF (v := .bool _) rfl rfl rfl) ?_
      refine seqQ rfl rfl (yAssign (v := .bool _) rfl rfl) ?_
      refine seqNil ?_
      refine hF9 _ _ ?_; clear hF9
      refine wpRet (fin1 (v := .bool _) rfl rfl ?_)
      exact ⟨by congr 1; grind [FewP], hx1⟩
    refine seqQ rfl rfl (yFieldAddr rfl Try.underlying25 rfl Try.sizeOf23 rfl rfl) ?_
    refine seqQ rfl rfl (yLoad rfl Try.underlying23 rfl rfl (hB1.cell rfl)) ?_
    refine seqQ rfl rfl (yLen rfl Try.underlying23 rfl) ?_
    refine seqQ rfl rfl (yLeq rfl rfl rfl) ?_
    refine seqQ rfl rfl (yPickT (v := .bool _) rfl rfl rfl) ?_
    refine seqQ rfl rfl (yAssign (v := .bool _) rfl rfl) ?_
    refine seqNil ?_
    refine hF9 _ _ ?_; clear hF9
    -- ret
    refine wpRet (fin1 (v := .bool _) rfl rfl ?_)
    exact ⟨by congr 1; grind [FewP], hx1⟩
set_option maxRecDepth 100000 in
theorem content_c (p : Pk) (A B : Option Addr) (ca cb : Nat) (H : Heap) (hA : Rd eVal H A p.vals) (hB : Rd eInt H B p.clk) :
    CallsH Try.prog 36 [.agg (pkC p A ca B cb).toArray] H fun v H' => v = .bool (decide ((p.vals.length : Int) ≤ 4 ∧ (p.clk.length : Int) ≤ 6 ∧ (∀ v ∈ p.vals, properB v = true) ∧ (∀ n ∈ p.clk, seqB n = true))) ∧ Ext H H' := by
  refine callsH_of Try.func36 rfl Try.ntmps36 (Nat.le_of_ble_eq_true rfl) ?_
  refine wpSeq fun F1 hF1 => ?_
  refine wpRegion ?_
  refine seqN rfl rfl (nBoxA rfl rfl) (fun g1 H1 hx1 hB1 hg1 hl1 => ?_)
  refine seqQ rfl rfl (yAssign (v := .bool _) rfl rfl) ?_
  refine seqNil ?_
  refine hF1 _ _ ?_; clear hF1
  refine wpSeq fun F2 hF2 => ?_
  refine wpSeq fun F3 hF3 => ?_
  refine wpRegion ?_
  refine seqQ rfl rfl (yFieldAddr rfl Try.underlying25 rfl Try.sizeOf22 rfl rfl) ?_
  refine seqQ rfl rfl (yLoad rfl Try.underlying22 rfl rfl (hB1.cell rfl)) ?_
  refine seqQ rfl rfl (yLen rfl Try.underlying22 rfl) ?_
  refine seqQ rfl rfl (yGtr rfl rfl rfl) ?_
  -- guard t9
  refine seqMeet 10 [9, 10, 11, 12, 13, 14] 14 (decide (4 < (p.vals.length : Int) ∨ 6 < (p.clk.length : Int))) (fun hm4 => ?_) (fun J4 => ?_)
  · skip
    first | refine seqG rfl rfl rfl rfl (fun h9 => ?_) (fun h9 => ?_) | refine seqGB rfl rfl rfl rfl (fun h9 => ?_) (fun h9 => ?_)
    · skip
      refine seqU rfl rfl ?_
      refine seqU rfl rfl ?_
      refine seqU rfl rfl ?_
      refine seqU rfl rfl ?_
      refine seqQ rfl rfl (yPickT (v := .bool _) rfl rfl rfl) ?_
      exact hm4 _ (by repeat (first | (with_reducible exact Agree.refl _ _) | refine Agree.upd ?_ rfl | refine Agree.over ?_ rfl)) (by show Value.bool _ = Value.bool _; congr 1; simp [*])
    · skip
      refine seqQ rfl rfl (yFieldAddr rfl Try.underlying25 rfl Try.sizeOf23 rfl rfl) ?_
      refine seqQ rfl rfl (yLoad rfl Try.underlying23 rfl rfl (hB1.cell rfl)) ?_
      refine seqQ rfl rfl (yLen rfl Try.underlying23 rfl) ?_
      refine seqQ rfl rfl (yGtr rfl rfl rfl) ?_
      refine seqQ rfl rfl (yPickF (v := .bool _) rfl rfl rfl) ?_
      exact hm4 _ (by repeat (first | (with_reducible exact Agree.refl _ _) | refine Agree.upd ?_ rfl | refine Agree.over ?_ rfl)) (by show Value.bool _ = Value.bool _; congr 1; simp [*])
  refine seqNil ?_
  refine hF3 _ _ ?_; clear hF3
  -- if t14
  refine wpIf rfl (fun h0 => ?_) (fun h0 => ?_)
  · skip
    refine wpSeq fun F5 hF5 => ?_
    refine wpRegion ?_
    refine seqQ rfl rfl (yAssign (v := .bool _) rfl rfl) ?_
    refine seqNil ?_
    refine hF5 _ _ ?_; clear hF5
    -- ret
    refine wpRet (fin1 (v := .bool _) rfl rfl ?_)
    exact ⟨by congr 1; grind, hx1⟩
  · skip
    have pr : ∀ v : PVal, properB v = true ↔ properR v = true ∧ (v.2.2.size : Int) ≤ 40 := by
      intro v
      simp only [properB, properR, decide_eq_true_iff]
      have e0 : ByteArray.empty.size = 0 := rfl
      constructor
      · rintro (⟨h1, h2⟩ | ⟨h1, h2, h3⟩)
        · exact ⟨.inl ⟨h1, h2⟩, by rw [h2, e0]; omega⟩
        · exact ⟨.inr ⟨h1, h2⟩, by omega⟩
      · rintro ⟨⟨h1, h2⟩ | ⟨h1, h2⟩, h3⟩
        · exact .inl ⟨h1, h2⟩
        · exact .inr ⟨h1, h2, by omega⟩
    refine wpSkip ?_
    refine hF2 _ _ ?_; clear hF2
    refine wpSeq fun F6 hF6 => ?_
    refine wpSeq fun F7 hF7 => ?_
    refine wpRegion ?_
    refine seqQ rfl rfl (yAssign (v := .int _ _) rfl rfl) ?_
    refine seqNil ?_
    refine hF7 _ _ ?_; clear hF7
    -- loop
    refine wpBlock ?_
    refine wpLoopS [2, 3, 15, 16, 17, 18, 19, 20, 21, 22, 23, 24, 25, 26, 27, 28, 29, 30, 31, 32, 33, 34, 35, 36, 37, 38] (fun k : Nat => [(3, .int .i64 k)]) (fun k H' => k ≤ p.vals.length ∧ (∀ v ∈ p.vals.take k, properB v = true) ∧ Ext H1 H') (fun k => p.vals.length - k) 0 ⟨rfl, trivial⟩ ⟨Nat.zero_le _, by simp, Ext.refl _⟩ ?_
    rintro k J H2 ⟨hk, he, hx2⟩
    refine wpSeq fun F8 hF8 => ?_
    refine wpSeq fun F9 hF9 => ?_
    refine wpRegion ?_
    refine seqQ rfl rfl (yMove (v := .int _ _) rfl rfl) ?_
    refine seqQ rfl rfl (yFieldAddr rfl Try.underlying25 rfl Try.sizeOf22 rfl rfl) ?_
    refine seqQ rfl rfl (yLoad rfl Try.underlying22 rfl rfl ((hB1.ext hx2).cell rfl)) ?_
    refine seqQ rfl rfl (yLen rfl Try.underlying22 rfl) ?_
    refine seqQ rfl rfl (yLss rfl rfl rfl) ?_
    refine seqNil ?_
    refine hF9 _ _ ?_; clear hF9
    -- if t19
    refine wpIf rfl (fun hlt => ?_) (fun hlt => ?_)
    · skip
      have hka : k < p.vals.length := by omega
      obtain ⟨a, rfl, ha⟩ := hA.at hka
      refine wpSkip ?_
      refine hF8 _ _ ?_; clear hF8
      refine wpSeq fun F10 hF10 => ?_
      refine wpBlock ?_
      refine wpSeq fun F11 hF11 => ?_
      refine wpRegion ?_
      refine seqQ rfl rfl (yFieldAddr rfl Try.underlying25 rfl Try.sizeOf22 rfl rfl) ?_
      refine seqQ rfl rfl (yLoad rfl Try.underlying22 rfl rfl ((hB1.ext hx2).cell rfl)) ?_
      refine seqQ rfl rfl (yMove (v := .int _ _) rfl rfl) ?_
      refine seqQ rfl rfl (yIdx rfl Try.underlying22 Try.sizeOf52 rfl rfl rfl hka) ?_
      refine seqQ rfl rfl (yLoadC (cs := eVal.F p.vals[k]) rfl Try.underlying52 rfl Try.sizeOf52 rfl (fun j u hu => (hx1.trans hx2).cell (ha j u hu))) ?_
      -- e slot 27: call F64<farandole/farandoleref01.Proper> t26
      refine seqE rfl rfl (stepCall rfl Try.call64 rfl ?_)
      refine (properR_c p.vals[k] _).mono ?_
      rintro v H3 ⟨rfl, hx3⟩
      refine seqQ rfl rfl (yNot rfl rfl) ?_
      -- guard t29
      refine seqMeet 17 [29, 30, 31, 32, 33, 34, 35, 36, 37, 38] 38 (!properB p.vals[k]) (fun hm12 => ?_) (fun J12 => ?_)
      · skip
        first | refine seqG rfl rfl rfl rfl (fun h29 => ?_) (fun h29 => ?_) | refine seqGB rfl rfl rfl rfl (fun h29 => ?_) (fun h29 => ?_)
        · skip
          refine seqU rfl rfl ?_
          refine seqU rfl rfl ?_
          refine seqU rfl rfl ?_
          refine seqU rfl rfl ?_
          refine seqU rfl rfl ?_
          refine seqU rfl rfl ?_
          refine seqU rfl rfl ?_
          refine seqU rfl rfl ?_
          refine seqQ rfl rfl (yPickT (v := .bool _) rfl rfl rfl) ?_
          exact hm12 _ (by repeat (first | (with_reducible exact Agree.refl _ _) | refine Agree.upd ?_ rfl | refine Agree.over ?_ rfl)) (by show Value.bool _ = Value.bool _; congr 1; grind)
        · skip
          refine seqQ rfl rfl (yFieldAddr rfl Try.underlying25 rfl Try.sizeOf22 rfl rfl) ?_
          refine seqQ rfl rfl (yLoad rfl Try.underlying22 rfl rfl (((hB1.ext hx2).ext hx3).cell rfl)) ?_
          refine seqQ rfl rfl (yMove (v := .int _ _) rfl rfl) ?_
          refine seqQ rfl rfl (yIdx rfl Try.underlying22 Try.sizeOf52 rfl rfl rfl hka) ?_
          refine seqQ rfl rfl (yFieldAddr rfl Try.underlying52 rfl Try.sizeOf9 rfl rfl) ?_
          refine seqQ rfl rfl (yLoad rfl Try.underlying9 rfl rfl (((hx1.trans hx2).trans hx3).cell (ha 2 _ rfl))) ?_
          refine seqQ rfl rfl (yLenS rfl Try.underlying9 rfl) ?_
          refine seqQ rfl rfl (yGtr rfl rfl rfl) ?_
          refine seqQ rfl rfl (yPickF (v := .bool _) rfl rfl rfl) ?_
          exact hm12 _ (by repeat (first | (with_reducible exact Agree.refl _ _) | refine Agree.upd ?_ rfl | refine Agree.over ?_ rfl)) (by show Value.bool _ = Value.bool _; congr 1; grind)
      refine seqNil ?_
      refine hF11 _ _ ?_; clear hF11
      -- if t38
      refine wpCond rfl (fun hb => ?_) (fun hb => ?_)
      · skip
        refine wpSeq fun F13 hF13 => ?_
        refine wpRegion ?_
        refine seqQ rfl rfl (yAssign (v := .bool _) rfl rfl) ?_
        refine seqNil ?_
        refine hF13 _ _ ?_; clear hF13
        -- ret
        refine wpRet (fin1 (v := .bool _) rfl rfl ?_)
        exact ⟨by rw [decide_eq_false (fun h => by have := h.2.2.1 _ (List.getElem_mem hka); rw [this] at hb; cases hb)], (hx1.trans hx2).trans hx3⟩
      · skip
        refine wpSkip ?_
        refine hF10 _ _ ?_; clear hF10
        refine wpRegion ?_
        refine seqQ rfl rfl (yMove (v := .int _ _) rfl rfl) ?_
        refine seqQ rfl rfl (yAdd rfl rfl rfl (by unfold In64; omega)) ?_
        refine seqQ rfl rfl (yAssign (v := .int _ _) rfl rfl) ?_
        refine seqNil ?_
        -- end loop
        exact loopEnd (k + 1) (by repeat (first | (with_reducible exact Agree.refl _ _) | refine Agree.upd ?_ rfl | refine Agree.over ?_ rfl)) (by omega) ⟨rfl, trivial⟩ ⟨hka, fun v hv => by
          rw [List.take_succ_eq_append_getElem hka] at hv
          rcases List.mem_append.1 hv with hv | hv
          · exact he v hv
          · simp at hv; subst hv; simpa using hb, hx2.trans hx3⟩
    · skip
      obtain rfl : k = p.vals.length := by omega
      rw [List.take_length] at he
      refine wpExit ?_
      refine hF6 _ _ ?_; clear hF6
      refine wpSeq fun F14 hF14 => ?_
      refine wpSeq fun F15 hF15 => ?_
      refine wpRegion ?_
      refine seqQ rfl rfl (yAssign (v := .int _ _) rfl rfl) ?_
      refine seqNil ?_
      refine hF15 _ _ ?_; clear hF15
      -- loop
      refine wpBlock ?_
      refine wpLoopS [2, 4, 39, 40, 41, 42, 43, 44, 45, 46, 47, 48, 49, 50, 51, 52] (fun k : Nat => [(4, .int .i64 k)]) (fun k H' => k ≤ p.clk.length ∧ (∀ v ∈ p.clk.take k, seqB v = true) ∧ H' = H2) (fun k => p.clk.length - k) 0 ⟨rfl, trivial⟩ ⟨Nat.zero_le _, by simp, rfl⟩ ?_
      rintro k J2 H3 ⟨hk2, he2, rfl⟩
      refine wpSeq fun F16 hF16 => ?_
      refine wpSeq fun F17 hF17 => ?_
      refine wpRegion ?_
      refine seqQ rfl rfl (yMove (v := .int _ _) rfl rfl) ?_
      refine seqQ rfl rfl (yFieldAddr rfl Try.underlying25 rfl Try.sizeOf23 rfl rfl) ?_
      refine seqQ rfl rfl (yLoad rfl Try.underlying23 rfl rfl ((hB1.ext hx2).cell rfl)) ?_
      refine seqQ rfl rfl (yLen rfl Try.underlying23 rfl) ?_
      refine seqQ rfl rfl (yLss rfl rfl rfl) ?_
      refine seqNil ?_
      refine hF17 _ _ ?_; clear hF17
      -- if t43
      refine wpIf rfl (fun hlt2 => ?_) (fun hlt2 => ?_)
      · skip
        have hka : k < p.clk.length := by omega
        obtain ⟨a, rfl, ha⟩ := hB.at1 hka
        refine wpSkip ?_
        refine hF16 _ _ ?_; clear hF16
        refine wpSeq fun F18 hF18 => ?_
        refine wpBlock ?_
        refine wpSeq fun F19 hF19 => ?_
        refine wpRegion ?_
        refine seqQ rfl rfl (yFieldAddr rfl Try.underlying25 rfl Try.sizeOf23 rfl rfl) ?_
        refine seqQ rfl rfl (yLoad rfl Try.underlying23 rfl rfl ((hB1.ext hx2).cell rfl)) ?_
        refine seqQ rfl rfl (yMove (v := .int _ _) rfl rfl) ?_
        refine seqQ rfl rfl (yIdx1 rfl Try.underlying23 Try.sizeOf3 rfl rfl rfl hka) ?_
        refine seqQ rfl rfl (yLoad rfl Try.underlying3 rfl rfl ((hx1.trans hx2).cell ha)) ?_
        -- e slot 51: call F34<farandole/farandoleref46.in> t50 [i:i64:0] [i:i64:1099511627776]
        refine seqE rfl rfl (stepCall rfl Try.call34 rfl ?_)
        refine (in_c p.clk[k] 0 1099511627776 _).mono ?_
        rintro v _ ⟨rfl, e⟩; obtain rfl := e.symm; clear e
        refine seqQ rfl rfl (yNot rfl rfl) ?_
        refine seqNil ?_
        refine hF19 _ _ ?_; clear hF19
        -- if t52
        refine wpCond rfl (fun hb => ?_) (fun hb => ?_)
        · skip
          refine wpSeq fun F20 hF20 => ?_
          refine wpRegion ?_
          refine seqQ rfl rfl (yAssign (v := .bool _) rfl rfl) ?_
          refine seqNil ?_
          refine hF20 _ _ ?_; clear hF20
          -- ret
          refine wpRet (fin1 (v := .bool _) rfl rfl ?_)
          exact ⟨by rw [decide_eq_false (fun h => by have := h.2.2.2 _ (List.getElem_mem hka); grind [seqB])], hx1.trans hx2⟩
        · skip
          refine wpSkip ?_
          refine hF18 _ _ ?_; clear hF18
          refine wpRegion ?_
          refine seqQ rfl rfl (yMove (v := .int _ _) rfl rfl) ?_
          refine seqQ rfl rfl (yAdd rfl rfl rfl (by unfold In64; omega)) ?_
          refine seqQ rfl rfl (yAssign (v := .int _ _) rfl rfl) ?_
          refine seqNil ?_
          -- end loop
          exact loopEnd (k + 1) (by repeat (first | (with_reducible exact Agree.refl _ _) | refine Agree.upd ?_ rfl | refine Agree.over ?_ rfl)) (by omega) ⟨rfl, trivial⟩ ⟨hka, fun v hv => by
            rw [List.take_succ_eq_append_getElem hka] at hv
            rcases List.mem_append.1 hv with hv | hv
            · exact he2 v hv
            · simp at hv; subst hv; grind [seqB], rfl⟩
      · skip
        obtain rfl : k = p.clk.length := by omega
        rw [List.take_length] at he2
        refine wpExit ?_
        refine hF14 _ _ ?_; clear hF14
        refine wpSeq fun F21 hF21 => ?_
        refine wpRegion ?_
        refine seqQ rfl rfl (yAssign (v := .bool _) rfl rfl) ?_
        refine seqNil ?_
        refine hF21 _ _ ?_; clear hF21
        -- ret
        refine wpRet (fin1 (v := .bool _) rfl rfl ?_)
        exact ⟨by rw [decide_eq_true ⟨by omega, by omega, he, he2⟩], hx1.trans hx2⟩
end Go.Proofs.Ytohjmobnnjjekaa
