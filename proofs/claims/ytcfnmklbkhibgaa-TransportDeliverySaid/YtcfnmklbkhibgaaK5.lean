/- Packets: Valid. -/
import Derived.Test.YtcfnmklbkhibgaaK4
namespace Go.Proofs.Ytcfnmklbkhibgaa
open Go.RowKit

set_option maxRecDepth 100000 in
theorem pkValid_c (p : Pk) (A B : Option Addr) (ca cb : Nat) (H : Heap) (hA : Rd eVal H A p.vals) (hB : Rd eInt H B p.clk) :
    CallsH Try.prog 30 [.agg (pkC p A ca B cb).toArray] H fun v H' => v = .bool (decide (ValidP p)) ∧ Ext H H' := by
  refine callsH_of Try.func30 rfl Try.ntmps30 (Nat.le_of_ble_eq_true rfl) ?_
  refine wpSeq fun F1 hF1 => ?_
  refine wpRegion ?_
  refine seqN rfl rfl (nBoxA rfl rfl) (fun g1 H1 hx1 hB1 hg1 hl1 => ?_)
  refine seqQ rfl rfl (yAssign (v := .bool _) rfl rfl) ?_
  refine seqNil ?_
  refine hF1 _ _ ?_; clear hF1
  refine wpSeq fun F2 hF2 => ?_
  refine wpRegion ?_
  refine seqQ rfl rfl (yBuild (pl := [(0, 1)]) (vs := [(0, .func _ _ _)]) rfl Try.underlying92 Try.zeroValue92 rfl (by unfold Places; kernel_rfl) rfl rfl) ?_
  refine seqQ rfl rfl (yBuild (pl := [(0, 1)]) (vs := [(0, .func _ _ _)]) rfl Try.underlying92 Try.zeroValue92 rfl (by unfold Places; kernel_rfl) rfl rfl) ?_
  refine seqQ rfl rfl (yBuild (pl := [(0, 1)]) (vs := [(0, .func _ _ _)]) rfl Try.underlying92 Try.zeroValue92 rfl (by unfold Places; kernel_rfl) rfl rfl) ?_
  refine seqQ rfl rfl (yBuild (pl := [(0, 1)]) (vs := [(0, .func _ _ _)]) rfl Try.underlying92 Try.zeroValue92 rfl (by unfold Places; kernel_rfl) rfl rfl) ?_
  refine seqN rfl rfl (nBuildSliceG (vs := [(1, .agg _), (2, .agg _), (3, .agg _), (4, .agg _)]) (zs := [.nilFunc, .nilFunc, .nilFunc, .nilFunc, .nilFunc]) rfl Try.underlying93 Try.sizeOf92 Try.zeroValue92 rfl (by decide) rfl (by kernel_rfl) rfl) (fun g8 H8 hx8 hB8 hg8 hl8 => ?_)
  refine seqQ rfl rfl (yAssign (v := .slice _ _ _) rfl rfl) ?_
  refine seqNil ?_
  refine hF2 _ _ ?_; clear hF2
  refine wpSeq fun F3 hF3 => ?_
  refine wpRegionD Try_mixed [.q, .q, .q, .q, .q, .q, .q, .q, .q, .q, .q, .q, .q, .q, .q, .q, .q, .q, .q, .q, .q, .q, .q, .q, .q, .q, .e, .q, .q] 26 [0, 1, 3, 7, 15, 31, 63, 127, 255, 511, 1023, 2047, 4095, 8191, 16383, 32767, 65535, 131071, 262143, 524287, 524287, 1572863, 4194303, 8388607, 16777215, 524287, 67108863, 134217727, 268435455] [] (by kernel_rfl) _ rfl [0, 1, 2, 3, 4, 5, 6, 7, 8, 9, 10, 11, 12, 13, 14, 15, 16, 17, 18, 19, 20, 21, 22, 23, 24, 25] rfl (by simp) ?_
  refine lexQ rfl rfl rfl rfl (fun H hM => (yFieldAddr rfl Try.underlying27 rfl Try.sizeOf3 rfl rfl)) ?_
  refine lexQ rfl rfl rfl rfl (fun H hM => (yLoad rfl Try.underlying3 rfl rfl (hM.ext.cell ((hB1.ext hx8).cell rfl)))) ?_
  refine lexQ rfl rfl rfl rfl (fun H hM => (yGeq rfl rfl rfl)) ?_
  first | refine lexG rfl rfl rfl rfl rfl rfl (fun h12 => ?_) (fun h12 => ?_) | refine lexGB rfl rfl rfl rfl rfl rfl (fun h12 => ?_) (fun h12 => ?_)
  rotate_left
  · skip
    refine lexU rfl rfl rfl ?_
    refine lexU rfl rfl rfl ?_
    refine lexU rfl rfl rfl ?_
    refine lexQ rfl rfl rfl rfl (fun H hM => (yPickF (v := .bool _) rfl rfl rfl)) ?_
    refine lexQ rfl rfl rfl rfl (fun H hM => (yMove (v := .bool false) rfl rfl)) ?_
    refine lexU rfl rfl rfl ?_
    refine lexU rfl rfl rfl ?_
    refine lexU rfl rfl rfl ?_
    refine lexQ rfl rfl rfl rfl (fun H hM => (yPickF (v := .bool _) rfl rfl rfl)) ?_
    refine lexQ rfl rfl rfl rfl (fun H hM => (yMove (v := .bool false) rfl rfl)) ?_
    refine lexU rfl rfl rfl ?_
    refine lexU rfl rfl rfl ?_
    refine lexU rfl rfl rfl ?_
    refine lexQ rfl rfl rfl rfl (fun H hM => (yPickF (v := .bool _) rfl rfl rfl)) ?_
    refine lexQ rfl rfl rfl rfl (fun H hM => (yMove (v := .bool false) rfl rfl)) ?_
    refine lexU rfl rfl rfl ?_
    refine lexU rfl rfl rfl ?_
    refine lexU rfl rfl rfl ?_
    refine lexU rfl rfl rfl ?_
    refine lexU rfl rfl rfl ?_
    refine lexU rfl rfl rfl ?_
    refine lexU rfl rfl rfl ?_
    refine lexNil0 rfl (fun hM => ?_)
    refine seqU rfl rfl ?_
    refine seqQ rfl rfl (yPickF (v := .bool _) rfl rfl rfl) ?_
    refine seqQ rfl rfl (yAssign (v := .bool _) rfl rfl) ?_
    refine seqNil ?_
    refine hF3 _ _ ?_; clear hF3
    refine wpRet (fin1 (v := .bool _) rfl rfl ?_)
    exact ⟨by grind [ValidP], hx1.trans hx8⟩
  refine lexQ rfl rfl rfl rfl (fun H hM => (yFieldAddr rfl Try.underlying27 rfl Try.sizeOf3 rfl rfl)) ?_
  refine lexQ rfl rfl rfl rfl (fun H hM => (yLoad rfl Try.underlying3 rfl rfl (hM.ext.cell ((hB1.ext hx8).cell rfl)))) ?_
  refine lexQ rfl rfl rfl rfl (fun H hM => (yLeq rfl rfl rfl)) ?_
  refine lexQ rfl rfl rfl rfl (fun H hM => (yPickT (v := .bool _) rfl rfl rfl)) ?_
  first | refine lexG rfl rfl rfl rfl rfl rfl (fun h17 => ?_) (fun h17 => ?_) | refine lexGB rfl rfl rfl rfl rfl rfl (fun h17 => ?_) (fun h17 => ?_)
  rotate_left
  · skip
    refine lexU rfl rfl rfl ?_
    refine lexU rfl rfl rfl ?_
    refine lexU rfl rfl rfl ?_
    refine lexQ rfl rfl rfl rfl (fun H hM => (yPickF (v := .bool _) rfl rfl rfl)) ?_
    refine lexQ rfl rfl rfl rfl (fun H hM => (yMove (v := .bool false) rfl rfl)) ?_
    refine lexU rfl rfl rfl ?_
    refine lexU rfl rfl rfl ?_
    refine lexU rfl rfl rfl ?_
    refine lexQ rfl rfl rfl rfl (fun H hM => (yPickF (v := .bool _) rfl rfl rfl)) ?_
    refine lexQ rfl rfl rfl rfl (fun H hM => (yMove (v := .bool false) rfl rfl)) ?_
    refine lexU rfl rfl rfl ?_
    refine lexU rfl rfl rfl ?_
    refine lexU rfl rfl rfl ?_
    refine lexU rfl rfl rfl ?_
    refine lexU rfl rfl rfl ?_
    refine lexU rfl rfl rfl ?_
    refine lexU rfl rfl rfl ?_
    refine lexNil0 rfl (fun hM => ?_)
    refine seqU rfl rfl ?_
    refine seqQ rfl rfl (yPickF (v := .bool _) rfl rfl rfl) ?_
    refine seqQ rfl rfl (yAssign (v := .bool _) rfl rfl) ?_
    refine seqNil ?_
    refine hF3 _ _ ?_; clear hF3
    refine wpRet (fin1 (v := .bool _) rfl rfl ?_)
    exact ⟨by grind [ValidP], hx1.trans hx8⟩
  refine lexQ rfl rfl rfl rfl (fun H hM => (yFieldAddr rfl Try.underlying27 rfl Try.sizeOf3 rfl rfl)) ?_
  refine lexQ rfl rfl rfl rfl (fun H hM => (yLoad rfl Try.underlying3 rfl rfl (hM.ext.cell ((hB1.ext hx8).cell rfl)))) ?_
  refine lexQ rfl rfl rfl rfl (fun H hM => (yGeq rfl rfl rfl)) ?_
  refine lexQ rfl rfl rfl rfl (fun H hM => (yPickT (v := .bool _) rfl rfl rfl)) ?_
  first | refine lexG rfl rfl rfl rfl rfl rfl (fun h22 => ?_) (fun h22 => ?_) | refine lexGB rfl rfl rfl rfl rfl rfl (fun h22 => ?_) (fun h22 => ?_)
  rotate_left
  · skip
    refine lexU rfl rfl rfl ?_
    refine lexU rfl rfl rfl ?_
    refine lexU rfl rfl rfl ?_
    refine lexQ rfl rfl rfl rfl (fun H hM => (yPickF (v := .bool _) rfl rfl rfl)) ?_
    refine lexQ rfl rfl rfl rfl (fun H hM => (yMove (v := .bool false) rfl rfl)) ?_
    refine lexU rfl rfl rfl ?_
    refine lexU rfl rfl rfl ?_
    refine lexU rfl rfl rfl ?_
    refine lexU rfl rfl rfl ?_
    refine lexU rfl rfl rfl ?_
    refine lexU rfl rfl rfl ?_
    refine lexU rfl rfl rfl ?_
    refine lexNil0 rfl (fun hM => ?_)
    refine seqU rfl rfl ?_
    refine seqQ rfl rfl (yPickF (v := .bool _) rfl rfl rfl) ?_
    refine seqQ rfl rfl (yAssign (v := .bool _) rfl rfl) ?_
    refine seqNil ?_
    refine hF3 _ _ ?_; clear hF3
    refine wpRet (fin1 (v := .bool _) rfl rfl ?_)
    exact ⟨by grind [ValidP], hx1.trans hx8⟩
  refine lexQ rfl rfl rfl rfl (fun H hM => (yFieldAddr rfl Try.underlying27 rfl Try.sizeOf3 rfl rfl)) ?_
  refine lexQ rfl rfl rfl rfl (fun H hM => (yLoad rfl Try.underlying3 rfl rfl (hM.ext.cell ((hB1.ext hx8).cell rfl)))) ?_
  refine lexQ rfl rfl rfl rfl (fun H hM => (yLeq rfl rfl rfl)) ?_
  refine lexQ rfl rfl rfl rfl (fun H hM => (yPickT (v := .bool _) rfl rfl rfl)) ?_
  first | refine lexG rfl rfl rfl rfl rfl rfl (fun h27 => ?_) (fun h27 => ?_) | refine lexGB rfl rfl rfl rfl rfl rfl (fun h27 => ?_) (fun h27 => ?_)
  rotate_left
  · skip
    refine lexU rfl rfl rfl ?_
    refine lexU rfl rfl rfl ?_
    refine lexU rfl rfl rfl ?_
    refine lexU rfl rfl rfl ?_
    refine lexU rfl rfl rfl ?_
    refine lexU rfl rfl rfl ?_
    refine lexU rfl rfl rfl ?_
    refine lexNil0 rfl (fun hM => ?_)
    refine seqU rfl rfl ?_
    refine seqQ rfl rfl (yPickF (v := .bool _) rfl rfl rfl) ?_
    refine seqQ rfl rfl (yAssign (v := .bool _) rfl rfl) ?_
    refine seqNil ?_
    refine hF3 _ _ ?_; clear hF3
    refine wpRet (fin1 (v := .bool _) rfl rfl ?_)
    exact ⟨by grind [ValidP], hx1.trans hx8⟩
  -- ret
  rcases (show p.kind = 1 ∨ p.kind = 2 ∨ p.kind = 3 ∨ p.kind = 4 by omega) with hk | hk | hk | hk
  · skip
    refine lexQ rfl rfl rfl rfl (fun H hM => (yMove (v := .slice _ _ _) rfl rfl)) ?_
    refine lexQ rfl rfl rfl rfl (fun H hM => (yFieldAddr rfl Try.underlying27 rfl Try.sizeOf3 rfl rfl)) ?_
    refine lexQ rfl rfl rfl rfl (fun H hM => (yLoad rfl Try.underlying3 rfl rfl (hM.ext.cell ((hB1.ext hx8).cell rfl)))) ?_
    refine lexQ rfl rfl rfl rfl (fun H hM => (yIdx1 rfl Try.underlying93 Try.sizeOf92 rfl rfl hk (by decide))) ?_
    refine lexQ rfl rfl rfl rfl (fun H hM => (yFieldAddr rfl Try.underlying92 rfl Try.sizeOf76 rfl rfl)) ?_
    refine lexQ rfl rfl rfl rfl (fun H hM => (yLoad rfl Try.underlying76 rfl rfl (hM.ext.cell (hB8.cell (j := 1) rfl)))) ?_
    refine lexQ rfl rfl rfl rfl (fun H hM => (yLoadB ((hB1.ext hx8).ext hM.ext) rfl Try.underlying27 rfl Try.sizeOf27 rfl)) ?_
    -- tail
    refine lexNil0 rfl (fun hM => ?_)
    -- e slot 35: callv t33 t34
    refine seqE rfl rfl (stepCallV (first := []) (cap := []) rfl Try.call47 rfl rfl ?_)
    refine (data_c p A B ca cb _ ((hA.ext hx1).ext hx8) ((hB.ext hx1).ext hx8)).mono ?_
    rintro v H9 ⟨rfl, hx9⟩
    refine seqQ rfl rfl (yPickT (v := .bool _) rfl rfl rfl) ?_
    refine seqQ rfl rfl (yAssign (v := .bool _) rfl rfl) ?_
    refine seqNil ?_
    refine hF3 _ _ ?_; clear hF3
    -- ret
    -- ret
    refine wpRet (fin1 (v := .bool _) rfl rfl ?_)
    exact ⟨by grind [ValidP], (hx1.trans hx8).trans hx9⟩
  · skip
    refine lexQ rfl rfl rfl rfl (fun H hM => (yMove (v := .slice _ _ _) rfl rfl)) ?_
    refine lexQ rfl rfl rfl rfl (fun H hM => (yFieldAddr rfl Try.underlying27 rfl Try.sizeOf3 rfl rfl)) ?_
    refine lexQ rfl rfl rfl rfl (fun H hM => (yLoad rfl Try.underlying3 rfl rfl (hM.ext.cell ((hB1.ext hx8).cell rfl)))) ?_
    refine lexQ rfl rfl rfl rfl (fun H hM => (yIdx1 rfl Try.underlying93 Try.sizeOf92 rfl rfl hk (by decide))) ?_
    refine lexQ rfl rfl rfl rfl (fun H hM => (yFieldAddr rfl Try.underlying92 rfl Try.sizeOf76 rfl rfl)) ?_
    refine lexQ rfl rfl rfl rfl (fun H hM => (yLoad rfl Try.underlying76 rfl rfl (hM.ext.cell (hB8.cell (j := 2) rfl)))) ?_
    refine lexQ rfl rfl rfl rfl (fun H hM => (yLoadB ((hB1.ext hx8).ext hM.ext) rfl Try.underlying27 rfl Try.sizeOf27 rfl)) ?_
    -- tail
    refine lexNil0 rfl (fun hM => ?_)
    -- e slot 35: callv t33 t34
    refine seqE rfl rfl (stepCallV (first := []) (cap := []) rfl Try.call48 rfl rfl ?_)
    refine (ack_c p A B ca cb _).mono ?_
    rintro v H9 ⟨rfl, hx9⟩
    refine seqQ rfl rfl (yPickT (v := .bool _) rfl rfl rfl) ?_
    refine seqQ rfl rfl (yAssign (v := .bool _) rfl rfl) ?_
    refine seqNil ?_
    refine hF3 _ _ ?_; clear hF3
    -- ret
    -- ret
    refine wpRet (fin1 (v := .bool _) rfl rfl ?_)
    exact ⟨by grind [ValidP], (hx1.trans hx8).trans hx9⟩
  · skip
    refine lexQ rfl rfl rfl rfl (fun H hM => (yMove (v := .slice _ _ _) rfl rfl)) ?_
    refine lexQ rfl rfl rfl rfl (fun H hM => (yFieldAddr rfl Try.underlying27 rfl Try.sizeOf3 rfl rfl)) ?_
    refine lexQ rfl rfl rfl rfl (fun H hM => (yLoad rfl Try.underlying3 rfl rfl (hM.ext.cell ((hB1.ext hx8).cell rfl)))) ?_
    refine lexQ rfl rfl rfl rfl (fun H hM => (yIdx1 rfl Try.underlying93 Try.sizeOf92 rfl rfl hk (by decide))) ?_
    refine lexQ rfl rfl rfl rfl (fun H hM => (yFieldAddr rfl Try.underlying92 rfl Try.sizeOf76 rfl rfl)) ?_
    refine lexQ rfl rfl rfl rfl (fun H hM => (yLoad rfl Try.underlying76 rfl rfl (hM.ext.cell (hB8.cell (j := 3) rfl)))) ?_
    refine lexQ rfl rfl rfl rfl (fun H hM => (yLoadB ((hB1.ext hx8).ext hM.ext) rfl Try.underlying27 rfl Try.sizeOf27 rfl)) ?_
    -- tail
    refine lexNil0 rfl (fun hM => ?_)
    -- e slot 35: callv t33 t34
    refine seqE rfl rfl (stepCallV (first := []) (cap := []) rfl Try.call49 rfl rfl ?_)
    refine (order_c p A B ca cb _).mono ?_
    rintro v H9 ⟨rfl, hx9⟩
    refine seqQ rfl rfl (yPickT (v := .bool _) rfl rfl rfl) ?_
    refine seqQ rfl rfl (yAssign (v := .bool _) rfl rfl) ?_
    refine seqNil ?_
    refine hF3 _ _ ?_; clear hF3
    -- ret
    -- ret
    refine wpRet (fin1 (v := .bool _) rfl rfl ?_)
    exact ⟨by grind [ValidP], (hx1.trans hx8).trans hx9⟩
  · skip
    refine lexQ rfl rfl rfl rfl (fun H hM => (yMove (v := .slice _ _ _) rfl rfl)) ?_
    refine lexQ rfl rfl rfl rfl (fun H hM => (yFieldAddr rfl Try.underlying27 rfl Try.sizeOf3 rfl rfl)) ?_
    refine lexQ rfl rfl rfl rfl (fun H hM => (yLoad rfl Try.underlying3 rfl rfl (hM.ext.cell ((hB1.ext hx8).cell rfl)))) ?_
    refine lexQ rfl rfl rfl rfl (fun H hM => (yIdx1 rfl Try.underlying93 Try.sizeOf92 rfl rfl hk (by decide))) ?_
    refine lexQ rfl rfl rfl rfl (fun H hM => (yFieldAddr rfl Try.underlying92 rfl Try.sizeOf76 rfl rfl)) ?_
    refine lexQ rfl rfl rfl rfl (fun H hM => (yLoad rfl Try.underlying76 rfl rfl (hM.ext.cell (hB8.cell (j := 4) rfl)))) ?_
    refine lexQ rfl rfl rfl rfl (fun H hM => (yLoadB ((hB1.ext hx8).ext hM.ext) rfl Try.underlying27 rfl Try.sizeOf27 rfl)) ?_
    -- tail
    refine lexNil0 rfl (fun hM => ?_)
    -- e slot 35: callv t33 t34
    refine seqE rfl rfl (stepCallV (first := []) (cap := []) rfl Try.call49 rfl rfl ?_)
    refine (order_c p A B ca cb _).mono ?_
    rintro v H9 ⟨rfl, hx9⟩
    refine seqQ rfl rfl (yPickT (v := .bool _) rfl rfl rfl) ?_
    refine seqQ rfl rfl (yAssign (v := .bool _) rfl rfl) ?_
    refine seqNil ?_
    refine hF3 _ _ ?_; clear hF3
    -- ret
    -- ret
    refine wpRet (fin1 (v := .bool _) rfl rfl ?_)
    exact ⟨by grind [ValidP], (hx1.trans hx8).trans hx9⟩
end Go.Proofs.Ytcfnmklbkhibgaa
