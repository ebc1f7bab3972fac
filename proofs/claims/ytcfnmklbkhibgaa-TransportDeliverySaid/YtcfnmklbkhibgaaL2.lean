/- Package link: the document's links: what is valid; delays, fates, copies. -/
import Derived.Test.YtcfnmklbkhibgaaL1
namespace Go.Proofs.Ytcfnmklbkhibgaa
open Go.RowKit

/-- The delays of the copies. -/
def delays (p : UInt8) : List Int := if p.toNat % 8 = 4 then [] else if p.toNat % 8 = 5 then [1 + (p.toNat / 8 % 4 : Nat), 2 + 2 * (p.toNat / 8 % 4 : Nat)] else if p.toNat % 8 = 6 then [5 + (p.toNat / 8 % 4 : Nat)] else [1 + (p.toNat / 8 % 4 : Nat)]
set_option maxRecDepth 100000 in
theorem delays_rng {p : UInt8} {d : Int} (h : d ∈ delays p) : 1 ≤ d ∧ d ≤ 8 := by
  unfold delays at h
  split at h
  · cases h
  · split at h
    · simp only [List.mem_cons, List.not_mem_nil, or_false] at h
      omega
    · split at h
      · simp only [List.mem_cons, List.not_mem_nil, or_false] at h
        omega
      · simp only [List.mem_cons, List.not_mem_nil, or_false] at h
        omega
set_option maxRecDepth 100000 in
theorem delays_len (p : UInt8) : (delays p).length ≤ 2 := by
  unfold delays
  split
  · simp
  · split
    · simp
    · split <;> simp
set_option maxRecDepth 100000 in
theorem delays_c (p : UInt8) (H : Heap) : CallsH Try.prog 80 [.int .u8 (p.toNat : Int)] H fun v H' => Own eInt 3 H' H.size v (delays p) ∧ Ext H H' := by
  have hp := p.toNat_lt
  refine callsH_of Try.func80 rfl Try.ntmps80 (Nat.le_of_ble_eq_true rfl) ?_
  refine wpSeq fun F1 hF1 => ?_
  refine wpRegion ?_
  refine seqQ rfl rfl (yAssign (v := .slice _ _ _) rfl rfl) ?_
  refine seqNil ?_
  refine hF1 _ _ ?_; clear hF1
  refine wpSeq fun F2 hF2 => ?_
  refine wpRegion ?_
  refine seqQ rfl rfl (yMove (v := .int _ _) rfl rfl) ?_
  refine seqQ rfl rfl (yConv rfl Try.underlying5 Try.underlying3 rfl (IntWalk.i64_in _ (by omega))) ?_
  refine seqQ rfl rfl (yQuo rfl rfl rfl (by omega)) ?_
  refine seqQ rfl rfl (yRem rfl rfl rfl (by omega)) ?_
  refine seqQ rfl rfl (yAssign (v := .int _ _) rfl rfl) ?_
  refine seqNil ?_
  refine hF2 _ _ ?_; clear hF2
  refine wpSeq fun F3 hF3 => ?_
  refine wpSeq fun F4 hF4 => ?_
  refine wpRegion ?_
  refine seqQ rfl rfl (yMove (v := .int _ _) rfl rfl) ?_
  refine seqQ rfl rfl (yRem rfl rfl rfl (by omega)) ?_
  refine seqNil ?_
  refine hF4 _ _ ?_; clear hF4
  refine wpBlock ?_
  refine wpSeq fun F5 hF5 => ?_
  refine wpRegion ?_
  refine seqQ rfl rfl (yEql rfl rfl rfl) ?_
  refine seqQ rfl rfl (yAssign (v := .bool _) rfl rfl) ?_
  refine seqNil ?_
  refine hF5 _ _ ?_; clear hF5
  -- if t10
  refine wpIf rfl (fun h4 => ?_) (fun h4 => ?_)
  · skip
    have h4 : p.toNat % 8 = 4 := by omega
    refine wpSeq fun F6 hF6 => ?_
    refine wpRegion ?_
    refine seqQ rfl rfl (yAssign (v := .slice _ _ _) rfl rfl) ?_
    refine seqNil ?_
    refine hF6 _ _ ?_; clear hF6
    -- ret
    refine wpRet (fin1 (v := .slice _ _ _) rfl rfl ?_)
    unfold delays
    rw [if_pos h4]
    exact ⟨Own.nil _ _, Ext.refl _⟩
  · skip
    refine wpSeq fun F7 hF7 => ?_
    refine wpRegion ?_
    refine seqQ rfl rfl (yEql rfl rfl rfl) ?_
    refine seqQ rfl rfl (yAssign (v := .bool _) rfl rfl) ?_
    refine seqNil ?_
    refine hF7 _ _ ?_; clear hF7
    -- if t12
    refine wpIf rfl (fun h5 => ?_) (fun h5 => ?_)
    · skip
      have h5 : p.toNat % 8 = 5 := by omega
      refine wpSeq fun F8 hF8 => ?_
      refine wpRegion ?_
      refine seqQ rfl rfl (yMove (v := .int _ _) rfl rfl) ?_
      refine seqQ rfl rfl (yAdd rfl rfl rfl (by unfold In64; omega)) ?_
      refine seqQ rfl rfl (yMove (v := .int _ _) rfl rfl) ?_
      refine seqQ rfl rfl (yMul rfl rfl rfl (by unfold In64; omega)) ?_
      refine seqQ rfl rfl (yAdd rfl rfl rfl (by unfold In64; omega)) ?_
      refine seqN rfl rfl (nBuildSlice (vs := [.int _ _, .int _ _]) rfl Try.underlying25 Try.sizeOf3 Try.zeroValue3 rfl rfl rfl rfl) (fun g19 H19 hx19 hB19 hg19 hl19 => ?_)
      refine seqQ rfl rfl (yAssign (v := .slice _ _ _) rfl rfl) ?_
      refine seqNil ?_
      refine hF8 _ _ ?_; clear hF8
      -- ret
      refine wpRet (fin1 (v := .slice _ _ _) rfl rfl ?_)
      unfold delays
      rw [if_neg (by omega), if_pos h5]
      refine ⟨Own.lit (c := eInt) (l := [1 + ((p.toNat / 8 % 4 : Nat) : Int), 2 + 2 * ((p.toNat / 8 % 4 : Nat) : Int)]) ?_ hg19 (by simp), hx19⟩
      have e : (p.toNat : Int) / 8 % 4 = ((p.toNat / 8 % 4 : Nat) : Int) := by omega
      rw [e] at hB19
      exact hB19
    · skip
      refine wpSeq fun F9 hF9 => ?_
      refine wpRegion ?_
      refine seqQ rfl rfl (yEql rfl rfl rfl) ?_
      refine seqQ rfl rfl (yAssign (v := .bool _) rfl rfl) ?_
      refine seqNil ?_
      refine hF9 _ _ ?_; clear hF9
      -- if t20
      refine wpIf rfl (fun h6 => ?_) (fun h6 => ?_)
      · skip
        have h6 : p.toNat % 8 = 6 := by omega
        refine wpSeq fun F10 hF10 => ?_
        refine wpRegion ?_
        refine seqQ rfl rfl (yMove (v := .int _ _) rfl rfl) ?_
        refine seqQ rfl rfl (yAdd rfl rfl rfl (by unfold In64; omega)) ?_
        refine seqN rfl rfl (nBuildSlice (vs := [.int _ _]) rfl Try.underlying25 Try.sizeOf3 Try.zeroValue3 rfl rfl rfl rfl) (fun g24 H24 hx24 hB24 hg24 hl24 => ?_)
        refine seqQ rfl rfl (yAssign (v := .slice _ _ _) rfl rfl) ?_
        refine seqNil ?_
        refine hF10 _ _ ?_; clear hF10
        -- ret
        refine wpRet (fin1 (v := .slice _ _ _) rfl rfl ?_)
        unfold delays
        rw [if_neg (by omega), if_neg (by omega), if_pos h6]
        refine ⟨Own.lit (c := eInt) (l := [5 + ((p.toNat / 8 % 4 : Nat) : Int)]) ?_ hg24 (by simp), hx24⟩
        have e : (p.toNat : Int) / 8 % 4 = ((p.toNat / 8 % 4 : Nat) : Int) := by omega
        rw [e] at hB24
        exact hB24
      · skip
        refine wpSkip ?_
        refine hF3 _ _ ?_; clear hF3
        refine wpSeq fun F11 hF11 => ?_
        refine wpRegion ?_
        refine seqQ rfl rfl (yMove (v := .int _ _) rfl rfl) ?_
        refine seqQ rfl rfl (yAdd rfl rfl rfl (by unfold In64; omega)) ?_
        refine seqN rfl rfl (nBuildSlice (vs := [.int _ _]) rfl Try.underlying25 Try.sizeOf3 Try.zeroValue3 rfl rfl rfl rfl) (fun g27 H27 hx27 hB27 hg27 hl27 => ?_)
        refine seqQ rfl rfl (yAssign (v := .slice _ _ _) rfl rfl) ?_
        refine seqNil ?_
        refine hF11 _ _ ?_; clear hF11
        -- ret
        refine wpRet (fin1 (v := .slice _ _ _) rfl rfl ?_)
        unfold delays
        rw [if_neg (by omega), if_neg (by omega), if_neg (by omega)]
        refine ⟨Own.lit (c := eInt) (l := [1 + ((p.toNat / 8 % 4 : Nat) : Int)]) ?_ hg27 (by simp), hx27⟩
        have e : (p.toNat : Int) / 8 % 4 = ((p.toNat / 8 % 4 : Nat) : Int) := by omega
        rw [e] at hB27
        exact hB27
end Go.Proofs.Ytcfnmklbkhibgaa
