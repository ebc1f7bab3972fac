/- Package timer: timers in memory; their order; what is valid. -/
import Derived.Test.YtbicgjleomkhdaaP
import Derived.Test.YtbicgjleomkhdaaLO
namespace Go.Proofs.Ytbicgjleomkhdaa
open Go.RowKit

/-- A timer: its time, its identifier. -/
abbrev Tm := Int × Int
def eTm : El Tm := ⟨fun x => [.int .i64 x.1, .int .i64 x.2], 2, by omega, fun _ => rfl, fun x u hu => by simp at hu; rcases hu with rfl | rfl <;> rfl⟩
set_option maxRecDepth 100000 in
theorem elem_eTm : Elem Try.prog 58 (.agg #[.int .i64 0, .int .i64 0]) 2 16 := by unfold Elem; kernel_rfl
set_option maxRecDepth 100000 in
theorem elem_eTmr : Elem Try.prog 42 (.agg #[.int .i64 0, .int .i64 0]) 2 16 := by unfold Elem; kernel_rfl
def befT (a b : Tm) : Prop := a.1 < b.1 ∨ a.1 = b.1 ∧ a.2 < b.2
instance (a b : Tm) : Decidable (befT a b) := by unfold befT; infer_instance
def okT (x : Tm) : Prop := 0 ≤ x.2 ∧ 0 ≤ x.1 ∧ x.1 ≤ 1099511627776
instance (x : Tm) : Decidable (okT x) := by unfold okT; infer_instance
def gT (t : List Tm) (i : Nat) : Tm := t.getD i (0, 0)
set_option maxRecDepth 100000 in
theorem gT_at {t : List Tm} {i : Nat} (h : i < t.length) : gT t i = t[i] := by unfold gT; rw [List.getD_eq_getElem?_getD, List.getElem?_eq_getElem h]; rfl
def OkAt (t : List Tm) (i : Nat) : Prop := okT (gT t i) ∧ (0 < i → befT (gT t (i - 1)) (gT t i)) ∧ ∀ k, k < i → (gT t k).2 ≠ (gT t i).2
instance (t : List Tm) (i : Nat) : Decidable (OkAt t i) := by unfold OkAt; infer_instance
def ValidT (t : List Tm) : Prop := (∀ i, i < t.length → OkAt t i) ∧ t.length ≤ 300
instance (t : List Tm) : Decidable (ValidT t) := by unfold ValidT; infer_instance
def cmpI (a b : Int) : Int := if a < b then -1 else if b < a then 1 else 0
def ordT (a b : Tm) : Int := if cmpI a.1 b.1 ≠ 0 then cmpI a.1 b.1 else cmpI a.2 b.2
set_option maxRecDepth 100000 in
theorem ordT_neg (a b : Tm) : ordT a b < 0 ↔ befT a b := by
  unfold ordT cmpI befT
  grind
set_option maxRecDepth 100000 in
theorem ordT_zero (a b : Tm) : ordT a b = 0 ↔ a = b := by
  obtain ⟨a1, a2⟩ := a
  obtain ⟨b1, b2⟩ := b
  simp only [Prod.mk.injEq]
  unfold ordT cmpI
  grind
set_option maxRecDepth 100000 in
theorem isNaN_c (x : Int) (H : Heap) : CallsH Try.prog 40 [.int .i64 x] H fun v H' => v = .bool false ∧ H' = H := by
  refine callsH_of Try.func40 rfl Try.ntmps40 (Nat.le_of_ble_eq_true rfl) ?_
  refine wpSeq fun F1 hF1 => ?_
  refine wpRegion ?_
  refine seqQ rfl rfl (yAssign (v := .bool _) rfl rfl) ?_
  refine seqNil ?_
  refine hF1 _ _ ?_; clear hF1
  refine wpSeq fun F2 hF2 => ?_
  refine wpRegion ?_
  refine seqQ rfl rfl (yMove (v := .int _ _) rfl rfl) ?_
  refine seqQ rfl rfl (yMove (v := .int _ _) rfl rfl) ?_
  refine seqQ rfl rfl (yNeq rfl rfl rfl) ?_
  refine seqQ rfl rfl (yAssign (v := .bool _) rfl rfl) ?_
  refine seqNil ?_
  refine hF2 _ _ ?_; clear hF2
  -- ret
  refine wpRet (fin1 (v := .bool _) rfl rfl ?_)
  exact ⟨by simp, rfl⟩
set_option maxRecDepth 100000 in
theorem compare_c (a b : Int) (H : Heap) : CallsH Try.prog 35 [.int .i64 a, .int .i64 b] H fun v H' => v = .int .i64 (cmpI a b) ∧ H' = H := by
  refine callsH_of Try.func35 rfl Try.ntmps35 (Nat.le_of_ble_eq_true rfl) ?_
  refine wpSeq fun F1 hF1 => ?_
  refine wpRegion ?_
  refine seqQ rfl rfl (yAssign (v := .int _ _) rfl rfl) ?_
  refine seqNil ?_
  refine hF1 _ _ ?_; clear hF1
  refine wpSeq fun F2 hF2 => ?_
  refine wpRegion ?_
  refine seqQ rfl rfl (yMove (v := .int _ _) rfl rfl) ?_
  -- e slot 8: call F40<cmp.isNaN[int]> t7
  refine seqE rfl rfl (stepCall rfl Try.call40 rfl ?_)
  refine (isNaN_c a _).mono ?_
  rintro v _ ⟨rfl, e⟩; obtain rfl := e.symm; clear e
  refine seqQ rfl rfl (yAssign (v := .bool _) rfl rfl) ?_
  refine seqNil ?_
  refine hF2 _ _ ?_; clear hF2
  refine wpSeq fun F3 hF3 => ?_
  refine wpRegion ?_
  refine seqQ rfl rfl (yMove (v := .int _ _) rfl rfl) ?_
  -- e slot 10: call F40<cmp.isNaN[int]> t9
  refine seqE rfl rfl (stepCall rfl Try.call40 rfl ?_)
  refine (isNaN_c b _).mono ?_
  rintro v _ ⟨rfl, e⟩; obtain rfl := e.symm; clear e
  refine seqQ rfl rfl (yAssign (v := .bool _) rfl rfl) ?_
  refine seqNil ?_
  refine hF3 _ _ ?_; clear hF3
  refine wpSeq fun F4 hF4 => ?_
  refine wpSeq fun F5 hF5 => ?_
  refine wpRegion ?_
  refine seqQ rfl rfl (yMove (v := .bool _) rfl rfl) ?_
  refine seqNil ?_
  refine hF5 _ _ ?_; clear hF5
  -- if t11
  refine wpF rfl ?_
  refine wpSkip ?_
  refine hF4 _ _ ?_; clear hF4
  refine wpSeq fun F6 hF6 => ?_
  refine wpSeq fun F7 hF7 => ?_
  refine wpRegion ?_
  refine seqQ rfl rfl (yMove (v := .bool _) rfl rfl) ?_
  refine seqNil ?_
  refine hF7 _ _ ?_; clear hF7
  -- if t13
  refine wpF rfl ?_
  refine wpSkip ?_
  refine hF6 _ _ ?_; clear hF6
  refine wpSeq fun F8 hF8 => ?_
  refine wpSeq fun F9 hF9 => ?_
  refine wpRegion ?_
  refine seqQ rfl rfl (yMove (v := .int _ _) rfl rfl) ?_
  refine seqQ rfl rfl (yMove (v := .int _ _) rfl rfl) ?_
  refine seqQ rfl rfl (yLss rfl rfl rfl) ?_
  refine seqNil ?_
  refine hF9 _ _ ?_; clear hF9
  -- if t16
  refine wpIf rfl (fun h1 => ?_) (fun h1 => ?_)
  · skip
    refine wpSeq fun F10 hF10 => ?_
    refine wpRegion ?_
    refine seqQ rfl rfl (yAssign (v := .int _ _) rfl rfl) ?_
    refine seqNil ?_
    refine hF10 _ _ ?_; clear hF10
    -- ret
    refine wpRet (fin1 (v := .int _ _) rfl rfl ?_)
    exact ⟨by unfold cmpI; rw [if_pos h1], rfl⟩
  · skip
    refine wpSkip ?_
    refine hF8 _ _ ?_; clear hF8
    refine wpSeq fun F11 hF11 => ?_
    refine wpSeq fun F12 hF12 => ?_
    refine wpRegion ?_
    refine seqQ rfl rfl (yMove (v := .int _ _) rfl rfl) ?_
    refine seqQ rfl rfl (yMove (v := .int _ _) rfl rfl) ?_
    refine seqQ rfl rfl (yGtr rfl rfl rfl) ?_
    refine seqNil ?_
    refine hF12 _ _ ?_; clear hF12
    -- if t19
    refine wpIf rfl (fun h2 => ?_) (fun h2 => ?_)
    · skip
      refine wpSeq fun F13 hF13 => ?_
      refine wpRegion ?_
      refine seqQ rfl rfl (yAssign (v := .int _ _) rfl rfl) ?_
      refine seqNil ?_
      refine hF13 _ _ ?_; clear hF13
      -- ret
      refine wpRet (fin1 (v := .int _ _) rfl rfl ?_)
      exact ⟨by unfold cmpI; rw [if_neg h1, if_pos h2], rfl⟩
    · skip
      refine wpSkip ?_
      refine hF11 _ _ ?_; clear hF11
      refine wpSeq fun F14 hF14 => ?_
      refine wpRegion ?_
      refine seqQ rfl rfl (yAssign (v := .int _ _) rfl rfl) ?_
      refine seqNil ?_
      refine hF14 _ _ ?_; clear hF14
      -- ret
      refine wpRet (fin1 (v := .int _ _) rfl rfl ?_)
      exact ⟨by unfold cmpI; rw [if_neg h1, if_neg h2], rfl⟩
set_option maxRecDepth 100000 in
theorem or_c (A : Option Addr) (c : Nat) (x y : Int) (H : Heap) (hA : Rd eInt H A [x, y]) : CallsH Try.prog 34 [.slice A 2 c] H fun v H' => v = .int .i64 (if x ≠ 0 then x else y) ∧ H' = H := by
  refine callsH_of Try.func34 rfl Try.ntmps34 (Nat.le_of_ble_eq_true rfl) ?_
  refine wpSeq fun F1 hF1 => ?_
  refine wpRegion ?_
  refine seqQ rfl rfl (yAssign (v := .int _ _) rfl rfl) ?_
  refine seqNil ?_
  refine hF1 _ _ ?_; clear hF1
  refine wpSeq fun F2 hF2 => ?_
  refine wpRegion ?_
  refine seqQ rfl rfl (yAssign (v := .int _ _) rfl rfl) ?_
  refine seqNil ?_
  refine hF2 _ _ ?_; clear hF2
  refine wpSeq fun F3 hF3 => ?_
  refine wpSeq fun F4 hF4 => ?_
  refine wpRegion ?_
  refine seqQ rfl rfl (yMove (v := .slice _ _ _) rfl rfl) ?_
  refine seqQ rfl rfl (yLen rfl Try.underlying27 rfl) ?_
  refine seqQ rfl rfl (yMove (v := .int _ _) rfl rfl) ?_
  refine seqNil ?_
  refine hF4 _ _ ?_; clear hF4
  -- loop
  refine wpBlock ?_
  refine wpLoopS [2, 5, 8, 9, 10, 11, 12, 13, 14, 15, 16] (fun k : Nat => [(8, .int .i64 k)]) (fun k H' => k ≤ 2 ∧ (0 < k → x = 0) ∧ (1 < k → y = 0) ∧ H' = H) (fun k => 2 - k) 0 ⟨rfl, trivial⟩ ⟨by omega, by omega, by omega, rfl⟩ ?_
  rintro k J Hk ⟨hk, h0, h1, rfl⟩
  refine wpSeq fun F5 hF5 => ?_
  refine wpRegion ?_
  refine seqQ rfl rfl (yLss rfl rfl rfl) ?_
  refine seqNil ?_
  refine hF5 _ _ ?_; clear hF5
  refine wpSeq fun F6 hF6 => ?_
  -- if t9
  refine wpIf rfl (fun hlt => ?_) (fun hlt => ?_)
  · skip
    have hk2 : k < [x, y].length := by simp; omega
    obtain ⟨p, ep, hp⟩ := hA.at1 hk2
    obtain ⟨z, e0, e1, e2⟩ : ∃ z, [x, y][k] = z ∧ (k = 0 → z = x) ∧ (k = 1 → z = y) := ⟨_, rfl, fun e => by subst e; rfl, fun e => by subst e; rfl⟩
    rw [e0] at hp
    refine wpSkip ?_
    refine hF6 _ _ ?_; clear hF6
    refine wpSeq fun F7 hF7 => ?_
    refine wpBlock ?_
    refine wpSeq fun F8 hF8 => ?_
    refine wpRegion ?_
    refine seqQ rfl rfl (yIdxP1 rfl Try.underlying27 Try.sizeOf3 rfl rfl ep rfl hk2) ?_
    refine seqQ rfl rfl (yLoad rfl Try.underlying3 rfl rfl hp) ?_
    refine seqQ rfl rfl (yAssign (v := .int _ _) rfl rfl) ?_
    refine seqNil ?_
    refine hF8 _ _ ?_; clear hF8
    refine wpSeq fun F9 hF9 => ?_
    refine wpRegion ?_
    refine seqQ rfl rfl (yMove (v := .int _ _) rfl rfl) ?_
    refine seqQ rfl rfl (yMove (v := .int _ _) rfl rfl) ?_
    refine seqQ rfl rfl (yNeq rfl rfl rfl) ?_
    refine seqNil ?_
    refine hF9 _ _ ?_; clear hF9
    -- if t14
    refine wpCond rfl (fun hz => ?_) (fun hz => ?_)
    · skip
      have hz : z ≠ 0 := by simpa using hz
      refine wpSeq fun F10 hF10 => ?_
      refine wpRegion ?_
      refine seqQ rfl rfl (yMove (v := .int _ _) rfl rfl) ?_
      refine seqQ rfl rfl (yAssign (v := .int _ _) rfl rfl) ?_
      refine seqNil ?_
      refine hF10 _ _ ?_; clear hF10
      -- ret
      refine wpRet (fin1 (v := .int _ _) rfl rfl ?_)
      refine ⟨?_, rfl⟩
      congr 1
      rcases (by omega : k = 0 ∨ k = 1) with e | e
      · rw [← e1 e, if_pos hz]
      · rw [if_neg (by have := h0 (by omega); simpa using this), e2 e]
    · skip
      have hz : z = 0 := by simpa using hz
      refine wpSkip ?_
      refine hF7 _ _ ?_; clear hF7
      refine wpRegion ?_
      refine seqQ rfl rfl (yAdd rfl rfl rfl (by unfold In64; omega)) ?_
      refine seqQ rfl rfl (yMove (v := .int _ _) rfl rfl) ?_
      refine seqNil ?_
      -- end loop
      refine loopEnd (k + 1) (by repeat (first | (with_reducible exact Agree.refl _ _) | refine Agree.upd ?_ rfl | refine Agree.over ?_ rfl)) (by omega) ⟨rfl, trivial⟩ ⟨by omega, ?_, ?_, rfl⟩
      · intro _
        rcases (by omega : k = 0 ∨ k = 1) with e | e
        · rw [← e1 e, hz]
        · exact h0 (by omega)
      · intro h
        rw [← e2 (by omega), hz]
  · skip
    refine wpExit ?_
    refine hF3 _ _ ?_; clear hF3
    refine wpSeq fun F11 hF11 => ?_
    refine wpRegion ?_
    refine seqQ rfl rfl (yMove (v := .int _ _) rfl rfl) ?_
    refine seqQ rfl rfl (yAssign (v := .int _ _) rfl rfl) ?_
    refine seqNil ?_
    refine hF11 _ _ ?_; clear hF11
    -- ret
    refine wpRet (fin1 (v := .int _ _) rfl rfl ?_)
    refine ⟨?_, rfl⟩
    rw [h0 (by omega), h1 (by omega)]
    rfl
set_option maxRecDepth 100000 in
theorem order_c (a b : Tm) (H : Heap) : CallsH Try.prog 27 [.agg (eTm.F a).toArray, .agg (eTm.F b).toArray] H fun v H' => v = .int .i64 (ordT a b) ∧ Ext H H' := by
  refine callsH_of Try.func27 rfl Try.ntmps27 (Nat.le_of_ble_eq_true rfl) ?_
  refine wpSeq fun F1 hF1 => ?_
  refine wpRegion ?_
  refine seqN rfl rfl (nBoxA rfl rfl) (fun g2 H2 hx2 hB2 hg2 hl2 => ?_)
  refine seqN rfl rfl (nBoxA rfl rfl) (fun g3 H3 hx3 hB3 hg3 hl3 => ?_)
  refine seqQ rfl rfl (yAssign (v := .int _ _) rfl rfl) ?_
  refine seqNil ?_
  refine hF1 _ _ ?_; clear hF1
  refine wpSeq fun F2 hF2 => ?_
  refine wpRegionD Try_mixed [.q, .q, .q, .q, .e, .q, .q, .q, .q, .e, .n, .e, .q] 9 [0, 1, 0, 4, 15, 0, 32, 0, 128, 511, 1023, 2047, 4095] [] (by kernel_rfl) _ rfl [0, 1, 2, 3, 4, 5, 6, 7, 8] rfl (by simp) ?_
  refine lexQ rfl rfl rfl rfl (fun H hM => (yFieldAddr rfl Try.underlying58 rfl Try.sizeOf3 rfl rfl)) ?_
  refine lexQ rfl rfl rfl rfl (fun H hM => (yLoad rfl Try.underlying3 rfl rfl (hM.ext.cell ((hB2.ext hx3).cell rfl)))) ?_
  refine lexQ rfl rfl rfl rfl (fun H hM => (yFieldAddr rfl Try.underlying58 rfl Try.sizeOf3 rfl rfl)) ?_
  refine lexQ rfl rfl rfl rfl (fun H hM => (yLoad rfl Try.underlying3 rfl rfl (hM.ext.cell (hB3.cell rfl)))) ?_
  -- e slot 9: call F35<cmp.Compare[int]> t6 t8
  refine lexX rfl rfl rfl rfl (by simp) (fun H9 hX9 hM9 hN9 => stepCall rfl Try.call35 rfl ?_)
  refine (compare_c _ _ _).mono ?_
  rintro v _ ⟨rfl, e⟩; obtain rfl := e.symm; clear e
  refine ⟨Ext.refl _, fun _ => ?_⟩
  refine lexQ rfl rfl rfl rfl (fun H hM => (yFieldAddr rfl Try.underlying58 rfl Try.sizeOf3 rfl rfl)) ?_
  refine lexQ rfl rfl rfl rfl (fun H hM => (yLoad rfl Try.underlying3 rfl rfl (hM.ext.cell ((hB2.ext hx3).cell rfl)))) ?_
  refine lexQ rfl rfl rfl rfl (fun H hM => (yFieldAddr rfl Try.underlying58 rfl Try.sizeOf3 rfl rfl)) ?_
  refine lexQ rfl rfl rfl rfl (fun H hM => (yLoad rfl Try.underlying3 rfl rfl (hM.ext.cell (hB3.cell rfl)))) ?_
  -- tail
  refine lexNil (fun K5 hX5 hM5 hN5 => ?_)
  -- e slot 14: call F35<cmp.Compare[int]> t11 t13
  refine seqE rfl rfl (stepCall rfl Try.call35 rfl ?_)
  refine (compare_c _ _ _).mono ?_
  rintro v _ ⟨rfl, e⟩; obtain rfl := e.symm; clear e
  refine seqN rfl rfl (nBuildSlice (vs := [.int _ _, .int _ _]) rfl Try.underlying27 Try.sizeOf3 Try.zeroValue3 rfl rfl rfl rfl) (fun g15 H15 hx15 hB15 hg15 hl15 => ?_)
  -- e slot 16: call F34<cmp.Or[int]> t15
  refine seqE rfl rfl (stepCall rfl Try.call34 rfl ?_)
  refine (or_c _ _ (cmpI a.1 b.1) (cmpI a.2 b.2) _ (Blk.rd (c := eInt) (l := [cmpI a.1 b.1, cmpI a.2 b.2]) hB15)).mono ?_
  rintro v _ ⟨rfl, e⟩; obtain rfl := e.symm; clear e
  refine seqQ rfl rfl (yAssign (v := .int _ _) rfl rfl) ?_
  refine seqNil ?_
  refine hF2 _ _ ?_; clear hF2
  -- ret
  refine wpRet (fin1 (v := .int _ _) rfl rfl ?_)
  exact ⟨rfl, (hx2.trans hx3).trans (hM5.ext.trans hx15)⟩
set_option maxRecDepth 100000 in
theorem proper_c (x : Tm) (H : Heap) : CallsH Try.prog 26 [.agg (eTm.F x).toArray] H fun v H' => v = .bool (decide (okT x)) ∧ Ext H H' := by
  refine callsH_of Try.func26 rfl Try.ntmps26 (Nat.le_of_ble_eq_true rfl) ?_
  refine wpSeq fun F1 hF1 => ?_
  refine wpRegion ?_
  refine seqN rfl rfl (nBoxA rfl rfl) (fun g1 H1 hx1 hB1 hg1 hl1 => ?_)
  refine seqQ rfl rfl (yAssign (v := .bool _) rfl rfl) ?_
  refine seqNil ?_
  refine hF1 _ _ ?_; clear hF1
  refine wpSeq fun F2 hF2 => ?_
  refine wpRegion ?_
  refine seqQ rfl rfl (yFieldAddr rfl Try.underlying58 rfl Try.sizeOf3 rfl rfl) ?_
  refine seqQ rfl rfl (yLoad rfl Try.underlying3 rfl rfl (hB1.cell rfl)) ?_
  refine seqQ rfl rfl (yGeq rfl rfl rfl) ?_
  first | refine seqG rfl rfl rfl rfl (fun h6 => ?_) (fun h6 => ?_) | refine seqGB rfl rfl rfl rfl (fun h6 => ?_) (fun h6 => ?_)
  rotate_left
  · skip
    refine seqU rfl rfl ?_
    refine seqU rfl rfl ?_
    refine seqU rfl rfl ?_
    refine seqQ rfl rfl (yPickF (v := .bool _) rfl rfl rfl) ?_
    refine seqQ rfl rfl (yMove (v := .bool false) rfl rfl) ?_
    refine seqU rfl rfl ?_
    refine seqU rfl rfl ?_
    refine seqU rfl rfl ?_
    refine seqQ rfl rfl (yPickF (v := .bool _) rfl rfl rfl) ?_
    refine seqQ rfl rfl (yAssign (v := .bool _) rfl rfl) ?_
    refine seqNil ?_
    refine hF2 _ _ ?_; clear hF2
    refine wpRet (fin1 (v := .bool _) rfl rfl ?_)
    exact ⟨by congr 1; rw [eq_comm, decide_eq_false_iff_not]; unfold okT; omega, hx1⟩
  refine seqQ rfl rfl (yFieldAddr rfl Try.underlying58 rfl Try.sizeOf3 rfl rfl) ?_
  refine seqQ rfl rfl (yLoad rfl Try.underlying3 rfl rfl (hB1.cell rfl)) ?_
  refine seqQ rfl rfl (yGeq rfl rfl rfl) ?_
  refine seqQ rfl rfl (yPickT (v := .bool _) rfl rfl rfl) ?_
  first | refine seqG rfl rfl rfl rfl (fun h11 => ?_) (fun h11 => ?_) | refine seqGB rfl rfl rfl rfl (fun h11 => ?_) (fun h11 => ?_)
  rotate_left
  · skip
    refine seqU rfl rfl ?_
    refine seqU rfl rfl ?_
    refine seqU rfl rfl ?_
    refine seqQ rfl rfl (yPickF (v := .bool _) rfl rfl rfl) ?_
    refine seqQ rfl rfl (yAssign (v := .bool _) rfl rfl) ?_
    refine seqNil ?_
    refine hF2 _ _ ?_; clear hF2
    refine wpRet (fin1 (v := .bool _) rfl rfl ?_)
    exact ⟨by congr 1; rw [eq_comm, decide_eq_false_iff_not]; unfold okT; omega, hx1⟩
  refine seqQ rfl rfl (yFieldAddr rfl Try.underlying58 rfl Try.sizeOf3 rfl rfl) ?_
  refine seqQ rfl rfl (yLoad rfl Try.underlying3 rfl rfl (hB1.cell rfl)) ?_
  refine seqQ rfl rfl (yLeq rfl rfl rfl) ?_
  refine seqQ rfl rfl (yPickT (v := .bool _) rfl rfl rfl) ?_
  refine seqQ rfl rfl (yAssign (v := .bool _) rfl rfl) ?_
  refine seqNil ?_
  refine hF2 _ _ ?_; clear hF2
  -- ret
  refine wpRet (fin1 (v := .bool _) rfl rfl ?_)
  exact ⟨by congr 1; rw [decide_eq_decide]; unfold okT; omega, hx1⟩
end Go.Proofs.Ytbicgjleomkhdaa
