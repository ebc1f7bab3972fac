/- Packets: what is valid. -/
import Derived.Test.YtcfnmklbkhibgaaK2
namespace Go.Proofs.Ytcfnmklbkhibgaa
open Go.RowKit

def properB (v : PVal) : Bool := decide (v.1 = 1 ∧ v.2.2 = ByteArray.empty ∨ v.1 = 2 ∧ v.2.1 = 0 ∧ v.2.2.size ≤ 40)
set_option maxRecDepth 100000 in
theorem proper_c (v : PVal) (H : Heap) : CallsH Try.prog 62 [.agg (eVal.F v).toArray] H fun r H' => r = .bool (properB v) ∧ Ext H H' := by
  refine callsH_of Try.func62 rfl Try.ntmps62 (Nat.le_of_ble_eq_true rfl) ?_
  refine wpSeq fun F1 hF1 => ?_
  refine wpRegion ?_
  refine seqN rfl rfl (nBoxA rfl rfl) (fun g1 H1 hx1 hB1 hg1 hl1 => ?_)
  refine seqQ rfl rfl (yAssign (v := .bool _) rfl rfl) ?_
  refine seqNil ?_
  refine hF1 _ _ ?_; clear hF1
  refine wpSeq fun F2 hF2 => ?_
  refine wpSeq fun F3 hF3 => ?_
  refine wpRegion ?_
  refine seqQ rfl rfl (yFieldAddr rfl Try.underlying80 rfl Try.sizeOf3 rfl rfl) ?_
  refine seqQ rfl rfl (yLoad rfl Try.underlying3 rfl rfl (hB1.cell rfl)) ?_
  refine seqNil ?_
  refine hF3 _ _ ?_; clear hF3
  refine wpBlock ?_
  refine wpSeq fun F4 hF4 => ?_
  refine wpRegion ?_
  refine seqQ rfl rfl (yEql rfl rfl rfl) ?_
  refine seqQ rfl rfl (yAssign (v := .bool _) rfl rfl) ?_
  refine seqNil ?_
  refine hF4 _ _ ?_; clear hF4
  -- if t5
  refine wpIf rfl (fun h1 => ?_) (fun h1 => ?_)
  · skip
    refine wpSeq fun F5 hF5 => ?_
    refine wpRegion ?_
    refine seqQ rfl rfl (yFieldAddr rfl Try.underlying80 rfl Try.sizeOf9 rfl rfl) ?_
    refine seqQ rfl rfl (yLoad rfl Try.underlying9 rfl rfl (hB1.cell rfl)) ?_
    refine seqQ rfl rfl (yEqlS rfl rfl rfl) ?_
    refine seqQ rfl rfl (yAssign (v := .bool _) rfl rfl) ?_
    refine seqNil ?_
    refine hF5 _ _ ?_; clear hF5
    -- ret
    refine wpRet (fin1 (v := .bool _) rfl rfl ?_)
    exact ⟨by simp [properB, h1]; rfl, hx1⟩
  · skip
    refine wpSeq fun F6 hF6 => ?_
    refine wpRegion ?_
    refine seqQ rfl rfl (yEql rfl rfl rfl) ?_
    refine seqQ rfl rfl (yAssign (v := .bool _) rfl rfl) ?_
    refine seqNil ?_
    refine hF6 _ _ ?_; clear hF6
    -- if t10
    refine wpIf rfl (fun h2 => ?_) (fun h2 => ?_)
    · skip
      refine wpSeq fun F7 hF7 => ?_
      refine wpRegion ?_
      refine seqQ rfl rfl (yFieldAddr rfl Try.underlying80 rfl Try.sizeOf3 rfl rfl) ?_
      refine seqQ rfl rfl (yLoad rfl Try.underlying3 rfl rfl (hB1.cell rfl)) ?_
      refine seqQ rfl rfl (yEql rfl rfl rfl) ?_
      first | refine seqG rfl rfl rfl rfl (fun h15 => ?_) (fun h15 => ?_) | refine seqGB rfl rfl rfl rfl (fun h15 => ?_) (fun h15 => ?_)
      rotate_left
      · skip
        refine seqU rfl rfl ?_
        refine seqU rfl rfl ?_
        refine seqU rfl rfl ?_
        refine seqU rfl rfl ?_
        refine seqQ rfl rfl (yPickF (v := .bool _) rfl rfl rfl) ?_
        refine seqQ rfl rfl (yAssign (v := .bool _) rfl rfl) ?_
        refine seqNil ?_
        refine hF7 _ _ ?_; clear hF7
        refine wpRet (fin1 (v := .bool _) rfl rfl ?_)
        exact ⟨by simp [properB, *], hx1⟩
      refine seqQ rfl rfl (yFieldAddr rfl Try.underlying80 rfl Try.sizeOf9 rfl rfl) ?_
      refine seqQ rfl rfl (yLoad rfl Try.underlying9 rfl rfl (hB1.cell rfl)) ?_
      refine seqQ rfl rfl (yLenS rfl Try.underlying9 rfl) ?_
      refine seqQ rfl rfl (yLeq rfl rfl rfl) ?_
      refine seqQ rfl rfl (yPickT (v := .bool _) rfl rfl rfl) ?_
      refine seqQ rfl rfl (yAssign (v := .bool _) rfl rfl) ?_
      refine seqNil ?_
      refine hF7 _ _ ?_; clear hF7
      -- ret
      refine wpRet (fin1 (v := .bool _) rfl rfl ?_)
      exact ⟨by simp [properB, *]; omega, hx1⟩
    · skip
      refine wpSkip ?_
      refine hF2 _ _ ?_; clear hF2
      refine wpSeq fun F8 hF8 => ?_
      refine wpRegion ?_
      refine seqQ rfl rfl (yAssign (v := .bool _) rfl rfl) ?_
      refine seqNil ?_
      refine hF8 _ _ ?_; clear hF8
      -- ret
      refine wpRet (fin1 (v := .bool _) rfl rfl ?_)
      exact ⟨by simp [properB, *], hx1⟩
set_option maxRecDepth 100000 in
theorem data1_c (v : PVal) (H : Heap) : CallsH Try.prog 61 [.agg (eVal.F v).toArray] H fun r H' => r = .bool (!properB v) ∧ Ext H H' := by
  refine callsH_of Try.func61 rfl Try.ntmps61 (Nat.le_of_ble_eq_true rfl) ?_
  refine wpSeq fun F1 hF1 => ?_
  refine wpRegion ?_
  refine seqN rfl rfl (nBoxA rfl rfl) (fun g1 H1 hx1 hB1 hg1 hl1 => ?_)
  refine seqQ rfl rfl (yAssign (v := .bool _) rfl rfl) ?_
  refine seqNil ?_
  refine hF1 _ _ ?_; clear hF1
  refine wpSeq fun F2 hF2 => ?_
  refine wpRegion ?_
  refine seqQ rfl rfl (yLoadB hB1 rfl Try.underlying80 rfl Try.sizeOf80 rfl) ?_
  -- e slot 4: call F62<farandole/packet.proper> t3
  refine seqE rfl rfl (stepCall rfl Try.call62 rfl ?_)
  refine (proper_c v _).mono ?_
  rintro r H1 ⟨rfl, hx⟩
  refine seqQ rfl rfl (yNot rfl rfl) ?_
  refine seqQ rfl rfl (yAssign (v := .bool _) rfl rfl) ?_
  refine seqNil ?_
  refine hF2 _ _ ?_; clear hF2
  -- ret
  refine wpRet (fin1 (v := .bool _) rfl rfl ?_)
  exact ⟨rfl, hx1.trans hx⟩
def seqB (n : Int) : Bool := decide (0 ≤ n ∧ n ≤ 1099511627776)
set_option maxRecDepth 100000 in
theorem data2_c (n : Int) (H : Heap) : CallsH Try.prog 64 [.int .i64 n] H fun r H' => r = .bool (!seqB n) ∧ Ext H H' := by
  refine callsH_of Try.func64 rfl Try.ntmps64 (Nat.le_of_ble_eq_true rfl) ?_
  refine wpSeq fun F1 hF1 => ?_
  refine wpRegion ?_
  refine seqQ rfl rfl (yAssign (v := .bool _) rfl rfl) ?_
  refine seqNil ?_
  refine hF1 _ _ ?_; clear hF1
  refine wpSeq fun F2 hF2 => ?_
  refine wpRegion ?_
  refine seqQ rfl rfl (yMove (v := .int _ _) rfl rfl) ?_
  refine seqQ rfl rfl (yLss rfl rfl rfl) ?_
  first | refine seqG rfl rfl rfl rfl (fun h5 => ?_) (fun h5 => ?_) | refine seqGB rfl rfl rfl rfl (fun h5 => ?_) (fun h5 => ?_)
  · skip
    refine seqU rfl rfl ?_
    refine seqU rfl rfl ?_
    refine seqQ rfl rfl (yPickT (v := .bool _) rfl rfl rfl) ?_
    refine seqQ rfl rfl (yAssign (v := .bool _) rfl rfl) ?_
    refine seqNil ?_
    refine hF2 _ _ ?_; clear hF2
    refine wpRet (fin1 (v := .bool _) rfl rfl ?_)
    exact ⟨by simp [seqB]; omega, Ext.refl _⟩
  refine seqQ rfl rfl (yMove (v := .int _ _) rfl rfl) ?_
  refine seqQ rfl rfl (yGtr rfl rfl rfl) ?_
  refine seqQ rfl rfl (yPickF (v := .bool _) rfl rfl rfl) ?_
  refine seqQ rfl rfl (yAssign (v := .bool _) rfl rfl) ?_
  refine seqNil ?_
  refine hF2 _ _ ?_; clear hF2
  -- ret
  refine wpRet (fin1 (v := .bool _) rfl rfl ?_)
  refine ⟨?_, Ext.refl _⟩
  congr 1
  rw [Bool.eq_iff_iff]
  simp [seqB]
  omega
set_option maxRecDepth 100000 in
theorem role_c (n : Int) (H : Heap) : CallsH Try.prog 66 [.int .i64 n] H fun r H' => r = .bool (decide (0 ≤ n ∧ n < 6)) ∧ H' = H := by
  refine callsH_of Try.func66 rfl Try.ntmps66 (Nat.le_of_ble_eq_true rfl) ?_
  refine wpSeq fun F1 hF1 => ?_
  refine wpRegion ?_
  refine seqQ rfl rfl (yAssign (v := .bool _) rfl rfl) ?_
  refine seqNil ?_
  refine hF1 _ _ ?_; clear hF1
  refine wpSeq fun F2 hF2 => ?_
  refine wpRegion ?_
  refine seqQ rfl rfl (yMove (v := .int _ _) rfl rfl) ?_
  refine seqQ rfl rfl (yGeq rfl rfl rfl) ?_
  first | refine seqG rfl rfl rfl rfl (fun h5 => ?_) (fun h5 => ?_) | refine seqGB rfl rfl rfl rfl (fun h5 => ?_) (fun h5 => ?_)
  rotate_left
  · skip
    refine seqU rfl rfl ?_
    refine seqU rfl rfl ?_
    refine seqQ rfl rfl (yPickF (v := .bool _) rfl rfl rfl) ?_
    refine seqQ rfl rfl (yAssign (v := .bool _) rfl rfl) ?_
    refine seqNil ?_
    refine hF2 _ _ ?_; clear hF2
    refine wpRet (fin1 (v := .bool _) rfl rfl ?_)
    exact ⟨by simp [*], rfl⟩
  refine seqQ rfl rfl (yMove (v := .int _ _) rfl rfl) ?_
  refine seqQ rfl rfl (yLss rfl rfl rfl) ?_
  refine seqQ rfl rfl (yPickT (v := .bool _) rfl rfl rfl) ?_
  refine seqQ rfl rfl (yAssign (v := .bool _) rfl rfl) ?_
  refine seqNil ?_
  refine hF2 _ _ ?_; clear hF2
  -- ret
  refine wpRet (fin1 (v := .bool _) rfl rfl ?_)
  exact ⟨by simp [*], rfl⟩
set_option maxRecDepth 100000 in
theorem indexV_c (A : Option Addr) (ca : Nat) (l : List PVal) (f : FuncId) (p : PVal → Bool) (H : Heap) (hA : Rd eVal H A l) (hl : l.length ≤ 1000000000)
    (hf : ∀ (args : Array Value) (w : World), (callFunc f args).run Try.prog w = .ok (.enter f args) w) (hp : ∀ x H, CallsH Try.prog f [.agg (eVal.F x).toArray] H fun r H' => r = .bool (p x) ∧ Ext H H') :
    CallsH Try.prog 85 [.slice A l.length ca, .func (.func f) #[] #[]] H fun v H' => (∃ r : Int, v = .int .i64 r ∧ (0 ≤ r ↔ l.any p = true)) ∧ Ext H H' := by
  refine callsH_of Try.func85 rfl Try.ntmps85 (Nat.le_of_ble_eq_true rfl) ?_
  refine wpSeq fun F1 hF1 => ?_
  refine wpRegion ?_
  refine seqQ rfl rfl (yAssign (v := .int _ _) rfl rfl) ?_
  refine seqNil ?_
  refine hF1 _ _ ?_; clear hF1
  refine wpSeq fun F2 hF2 => ?_
  refine wpSeq fun F3 hF3 => ?_
  refine wpRegion ?_
  refine seqQ rfl rfl (yMove (v := .slice _ _ _) rfl rfl) ?_
  refine seqQ rfl rfl (yLen rfl Try.underlying24 rfl) ?_
  refine seqQ rfl rfl (yMove (v := .int _ _) rfl rfl) ?_
  refine seqNil ?_
  refine hF3 _ _ ?_; clear hF3
  -- loop
  refine wpBlock ?_
  refine wpLoopS [4, 5, 8, 9, 10, 11, 12, 13, 14, 15, 16, 17, 18] (fun k : Nat => [(8, .int .i64 k)]) (fun k H' => k ≤ l.length ∧ (l.take k).any p = false ∧ Ext H H') (fun k => l.length - k) 0 ⟨rfl, trivial⟩ ⟨Nat.zero_le _, rfl, Ext.refl _⟩ ?_
  rintro k J H1 ⟨hk, he, hx⟩
  refine wpSeq fun F4 hF4 => ?_
  refine wpRegion ?_
  refine seqQ rfl rfl (yLss rfl rfl rfl) ?_
  refine seqNil ?_
  refine hF4 _ _ ?_; clear hF4
  refine wpSeq fun F5 hF5 => ?_
  -- if t9
  refine wpIf rfl (fun hlt => ?_) (fun hlt => ?_)
  · skip
    have hka : k < l.length := by omega
    obtain ⟨a, rfl, ha⟩ := hA.at hka
    refine wpSkip ?_
    refine hF5 _ _ ?_; clear hF5
    refine wpSeq fun F6 hF6 => ?_
    refine wpBlock ?_
    refine wpSeq fun F7 hF7 => ?_
    refine wpRegion ?_
    refine seqQ rfl rfl (yMove (v := .int _ _) rfl rfl) ?_
    refine seqQ rfl rfl (yAssign (v := .int _ _) rfl rfl) ?_
    refine seqNil ?_
    refine hF7 _ _ ?_; clear hF7
    refine wpSeq fun F8 hF8 => ?_
    refine wpRegion ?_
    refine seqQ rfl rfl (yMove (v := .func _ _ _) rfl rfl) ?_
    refine seqQ rfl rfl (yMove (v := .slice _ _ _) rfl rfl) ?_
    refine seqQ rfl rfl (yMove (v := .int _ _) rfl rfl) ?_
    refine seqQ rfl rfl (yIdx rfl Try.underlying24 Try.sizeOf80 rfl rfl rfl (by omega)) ?_
    refine seqQ rfl rfl (yLoadC (cs := eVal.F l[k]) rfl Try.underlying80 rfl Try.sizeOf80 rfl (fun j u hu => hx.cell (ha j u hu))) ?_
    -- e slot 16: callv t11 t15
    refine seqE rfl rfl (stepCallV (first := []) (cap := []) rfl hf rfl rfl ?_)
    refine (hp l[k] _).mono ?_
    rintro r H2 ⟨rfl, hx2⟩
    refine seqNil ?_
    refine hF8 _ _ ?_; clear hF8
    -- if t16
    refine wpCond rfl (fun hb => ?_) (fun hb => ?_)
    · skip
      refine wpSeq fun F9 hF9 => ?_
      refine wpRegion ?_
      refine seqQ rfl rfl (yMove (v := .int _ _) rfl rfl) ?_
      refine seqQ rfl rfl (yAssign (v := .int _ _) rfl rfl) ?_
      refine seqNil ?_
      refine hF9 _ _ ?_; clear hF9
      -- ret
      refine wpRet (fin1 (v := .int _ _) rfl rfl ?_)
      exact ⟨⟨_, rfl, by simp only [Int.natCast_nonneg, true_iff]; exact List.any_eq_true.2 ⟨_, List.getElem_mem hka, hb⟩⟩, hx.trans hx2⟩
    · skip
      refine wpSkip ?_
      refine hF6 _ _ ?_; clear hF6
      refine wpRegion ?_
      refine seqQ rfl rfl (yAdd rfl rfl rfl (by unfold In64; omega)) ?_
      refine seqQ rfl rfl (yMove (v := .int _ _) rfl rfl) ?_
      refine seqNil ?_
      -- end loop
      exact loopEnd (k + 1) (by repeat (first | (with_reducible exact Agree.refl _ _) | refine Agree.upd ?_ rfl | refine Agree.over ?_ rfl)) (by omega) ⟨rfl, trivial⟩ ⟨hka, by rw [List.take_succ_eq_append_getElem hka, List.any_append, he]; simp [hb], hx.trans hx2⟩
  · skip
    obtain rfl : k = l.length := by omega
    rw [List.take_length] at he
    refine wpExit ?_
    refine hF2 _ _ ?_; clear hF2
    refine wpSeq fun F10 hF10 => ?_
    refine wpRegion ?_
    refine seqQ rfl rfl (yAssign (v := .int _ _) rfl rfl) ?_
    refine seqNil ?_
    refine hF10 _ _ ?_; clear hF10
    -- ret
    refine wpRet (fin1 (v := .int _ _) rfl rfl ?_)
    exact ⟨⟨_, rfl, by rw [he]; simp⟩, hx⟩
set_option maxRecDepth 100000 in
theorem indexI_c (A : Option Addr) (ca : Nat) (l : List Int) (f : FuncId) (p : Int → Bool) (H : Heap) (hA : Rd eInt H A l) (hl : l.length ≤ 1000000000)
    (hf : ∀ (args : Array Value) (w : World), (callFunc f args).run Try.prog w = .ok (.enter f args) w) (hp : ∀ x H, CallsH Try.prog f [.int .i64 x] H fun r H' => r = .bool (p x) ∧ Ext H H') :
    CallsH Try.prog 86 [.slice A l.length ca, .func (.func f) #[] #[]] H fun v H' => (∃ r : Int, v = .int .i64 r ∧ (0 ≤ r ↔ l.any p = true)) ∧ Ext H H' := by
  refine callsH_of Try.func86 rfl Try.ntmps86 (Nat.le_of_ble_eq_true rfl) ?_
  refine wpSeq fun F1 hF1 => ?_
  refine wpRegion ?_
  refine seqQ rfl rfl (yAssign (v := .int _ _) rfl rfl) ?_
  refine seqNil ?_
  refine hF1 _ _ ?_; clear hF1
  refine wpSeq fun F2 hF2 => ?_
  refine wpSeq fun F3 hF3 => ?_
  refine wpRegion ?_
  refine seqQ rfl rfl (yMove (v := .slice _ _ _) rfl rfl) ?_
  refine seqQ rfl rfl (yLen rfl Try.underlying25 rfl) ?_
  refine seqQ rfl rfl (yMove (v := .int _ _) rfl rfl) ?_
  refine seqNil ?_
  refine hF3 _ _ ?_; clear hF3
  -- loop
  refine wpBlock ?_
  refine wpLoopS [4, 5, 8, 9, 10, 11, 12, 13, 14, 15, 16, 17, 18] (fun k : Nat => [(8, .int .i64 k)]) (fun k H' => k ≤ l.length ∧ (l.take k).any p = false ∧ Ext H H') (fun k => l.length - k) 0 ⟨rfl, trivial⟩ ⟨Nat.zero_le _, rfl, Ext.refl _⟩ ?_
  rintro k J H1 ⟨hk, he, hx⟩
  refine wpSeq fun F4 hF4 => ?_
  refine wpRegion ?_
  refine seqQ rfl rfl (yLss rfl rfl rfl) ?_
  refine seqNil ?_
  refine hF4 _ _ ?_; clear hF4
  refine wpSeq fun F5 hF5 => ?_
  -- if t9
  refine wpIf rfl (fun hlt => ?_) (fun hlt => ?_)
  · skip
    have hka : k < l.length := by omega
    obtain ⟨a, rfl, ha⟩ := hA.at1 hka
    refine wpSkip ?_
    refine hF5 _ _ ?_; clear hF5
    refine wpSeq fun F6 hF6 => ?_
    refine wpBlock ?_
    refine wpSeq fun F7 hF7 => ?_
    refine wpRegion ?_
    refine seqQ rfl rfl (yMove (v := .int _ _) rfl rfl) ?_
    refine seqQ rfl rfl (yAssign (v := .int _ _) rfl rfl) ?_
    refine seqNil ?_
    refine hF7 _ _ ?_; clear hF7
    refine wpSeq fun F8 hF8 => ?_
    refine wpRegion ?_
    refine seqQ rfl rfl (yMove (v := .func _ _ _) rfl rfl) ?_
    refine seqQ rfl rfl (yMove (v := .slice _ _ _) rfl rfl) ?_
    refine seqQ rfl rfl (yMove (v := .int _ _) rfl rfl) ?_
    refine seqQ rfl rfl (yIdx1 rfl Try.underlying25 Try.sizeOf3 rfl rfl rfl (by omega)) ?_
    refine seqQ rfl rfl (yLoad rfl Try.underlying3 rfl rfl (hx.cell ha)) ?_
    -- e slot 16: callv t11 t15
    refine seqE rfl rfl (stepCallV (first := []) (cap := []) rfl hf rfl rfl ?_)
    refine (hp l[k] _).mono ?_
    rintro r H2 ⟨rfl, hx2⟩
    refine seqNil ?_
    refine hF8 _ _ ?_; clear hF8
    -- if t16
    refine wpCond rfl (fun hb => ?_) (fun hb => ?_)
    · skip
      refine wpSeq fun F9 hF9 => ?_
      refine wpRegion ?_
      refine seqQ rfl rfl (yMove (v := .int _ _) rfl rfl) ?_
      refine seqQ rfl rfl (yAssign (v := .int _ _) rfl rfl) ?_
      refine seqNil ?_
      refine hF9 _ _ ?_; clear hF9
      -- ret
      refine wpRet (fin1 (v := .int _ _) rfl rfl ?_)
      exact ⟨⟨_, rfl, by simp only [Int.natCast_nonneg, true_iff]; exact List.any_eq_true.2 ⟨_, List.getElem_mem hka, hb⟩⟩, hx.trans hx2⟩
    · skip
      refine wpSkip ?_
      refine hF6 _ _ ?_; clear hF6
      refine wpRegion ?_
      refine seqQ rfl rfl (yAdd rfl rfl rfl (by unfold In64; omega)) ?_
      refine seqQ rfl rfl (yMove (v := .int _ _) rfl rfl) ?_
      refine seqNil ?_
      -- end loop
      exact loopEnd (k + 1) (by repeat (first | (with_reducible exact Agree.refl _ _) | refine Agree.upd ?_ rfl | refine Agree.over ?_ rfl)) (by omega) ⟨rfl, trivial⟩ ⟨hka, by rw [List.take_succ_eq_append_getElem hka, List.any_append, he]; simp [hb], hx.trans hx2⟩
  · skip
    obtain rfl : k = l.length := by omega
    rw [List.take_length] at he
    refine wpExit ?_
    refine hF2 _ _ ?_; clear hF2
    refine wpSeq fun F10 hF10 => ?_
    refine wpRegion ?_
    refine seqQ rfl rfl (yAssign (v := .int _ _) rfl rfl) ?_
    refine seqNil ?_
    refine hF10 _ _ ?_; clear hF10
    -- ret
    refine wpRet (fin1 (v := .int _ _) rfl rfl ?_)
    exact ⟨⟨_, rfl, by rw [he]; simp⟩, hx⟩
set_option maxRecDepth 100000 in
theorem containsV_c (A : Option Addr) (ca : Nat) (l : List PVal) (f : FuncId) (p : PVal → Bool) (H : Heap) (hA : Rd eVal H A l) (hl : l.length ≤ 1000000000)
    (hf : ∀ (args : Array Value) (w : World), (callFunc f args).run Try.prog w = .ok (.enter f args) w) (hp : ∀ x H, CallsH Try.prog f [.agg (eVal.F x).toArray] H fun r H' => r = .bool (p x) ∧ Ext H H') :
    CallsH Try.prog 60 [.slice A l.length ca, .func (.func f) #[] #[]] H fun v H' => v = .bool (l.any p) ∧ Ext H H' := by
  refine callsH_of Try.func60 rfl Try.ntmps60 (Nat.le_of_ble_eq_true rfl) ?_
  refine wpSeq fun F1 hF1 => ?_
  refine wpRegion ?_
  refine seqQ rfl rfl (yAssign (v := .bool _) rfl rfl) ?_
  refine seqNil ?_
  refine hF1 _ _ ?_; clear hF1
  refine wpSeq fun F2 hF2 => ?_
  refine wpRegion ?_
  refine seqQ rfl rfl (yMove (v := .slice _ _ _) rfl rfl) ?_
  refine seqQ rfl rfl (yMove (v := .func _ _ _) rfl rfl) ?_
  -- e slot 7: call F85<slices.IndexFunc[[]farandole/api.Value,farandole/api.Value]> t5 t6
  refine seqE rfl rfl (stepCall rfl Try.call85 rfl ?_)
  refine (indexV_c A ca l f p H hA hl hf hp).mono ?_
  rintro v H1 ⟨⟨r, rfl, hr⟩, hx⟩
  refine seqQ rfl rfl (yGeq rfl rfl rfl) ?_
  refine seqQ rfl rfl (yAssign (v := .bool _) rfl rfl) ?_
  refine seqNil ?_
  refine hF2 _ _ ?_; clear hF2
  -- ret
  refine wpRet (fin1 (v := .bool _) rfl rfl ?_)
  exact ⟨by congr 1; rw [Bool.eq_iff_iff, decide_eq_true_iff]; exact hr, hx⟩
set_option maxRecDepth 100000 in
theorem containsI_c (A : Option Addr) (ca : Nat) (l : List Int) (f : FuncId) (p : Int → Bool) (H : Heap) (hA : Rd eInt H A l) (hl : l.length ≤ 1000000000)
    (hf : ∀ (args : Array Value) (w : World), (callFunc f args).run Try.prog w = .ok (.enter f args) w) (hp : ∀ x H, CallsH Try.prog f [.int .i64 x] H fun r H' => r = .bool (p x) ∧ Ext H H') :
    CallsH Try.prog 63 [.slice A l.length ca, .func (.func f) #[] #[]] H fun v H' => v = .bool (l.any p) ∧ Ext H H' := by
  refine callsH_of Try.func63 rfl Try.ntmps63 (Nat.le_of_ble_eq_true rfl) ?_
  refine wpSeq fun F1 hF1 => ?_
  refine wpRegion ?_
  refine seqQ rfl rfl (yAssign (v := .bool _) rfl rfl) ?_
  refine seqNil ?_
  refine hF1 _ _ ?_; clear hF1
  refine wpSeq fun F2 hF2 => ?_
  refine wpRegion ?_
  refine seqQ rfl rfl (yMove (v := .slice _ _ _) rfl rfl) ?_
  refine seqQ rfl rfl (yMove (v := .func _ _ _) rfl rfl) ?_
  -- e slot 7: call F86<slices.IndexFunc[[]int,int]> t5 t6
  refine seqE rfl rfl (stepCall rfl Try.call86 rfl ?_)
  refine (indexI_c A ca l f p H hA hl hf hp).mono ?_
  rintro v H1 ⟨⟨r, rfl, hr⟩, hx⟩
  refine seqQ rfl rfl (yGeq rfl rfl rfl) ?_
  refine seqQ rfl rfl (yAssign (v := .bool _) rfl rfl) ?_
  refine seqNil ?_
  refine hF2 _ _ ?_; clear hF2
  -- ret
  refine wpRet (fin1 (v := .bool _) rfl rfl ?_)
  exact ⟨by congr 1; rw [Bool.eq_iff_iff, decide_eq_true_iff]; exact hr, hx⟩
end Go.Proofs.Ytcfnmklbkhibgaa
