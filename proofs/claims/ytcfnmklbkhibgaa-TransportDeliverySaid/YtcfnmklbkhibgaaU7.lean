/- Layer 50: the deliveries are in order. -/
import Derived.Test.YtcfnmklbkhibgaaU6
namespace Go.Proofs.Ytcfnmklbkhibgaa
open Go.RowKit

set_option maxRecDepth 100000 in
theorem inOrder_c (gw b : Nat) (w : Wd) (x : WX) (aa bb : Int) (H : Heap) (hm : WM gw b w x H) (ht : TI aa bb w) :
    CallsH Try.prog 26 [.pointer (some ⟨gw, 0, none⟩)] H fun v H' => v = .bool true ∧ H' = H := by
  obtain ⟨o1, o2, o3, o4⟩ := ht.order
  have hdl := ht.dlvl
  have hof := ht.off
  have hls := ht.lastr
  have hac : 0 ≤ w.acked ∧ w.acked ≤ 100 := by
    cases hbz : w.snd.busy with
    | true => have := ht.busy hbz; omega
    | false => have := ht.idle hbz; omega
  have hrd : Rd eInt H x.DA w.dlv := (Own.rd hm.dl).2
  have hD : cellH H ((⟨gw, 0, none⟩ : Addr).add 25) = some (.slice x.DA w.dlv.length x.dc) := hm.blk.cell rfl
  have hO : cellH H ((⟨gw, 0, none⟩ : Addr).add 23) = some (.int .i64 w.offered) := hm.blk.cell rfl
  have hC : cellH H ((⟨gw, 0, none⟩ : Addr).add 24) = some (.int .i64 w.acked) := hm.blk.cell rfl
  refine callsH_of Try.func26 rfl Try.ntmps26 (Nat.le_of_ble_eq_true rfl) ?_
  refine wpSeq fun F1 hF1 => ?_
  refine wpRegion ?_
  refine seqQ rfl rfl (yAssign (v := .bool _) rfl rfl) ?_
  refine seqNil ?_
  refine hF1 _ _ ?_; clear hF1
  refine wpSeq fun F2 hF2 => ?_
  refine wpSeq fun F3 hF3 => ?_
  refine wpRegion ?_
  refine seqQ rfl rfl (yAssign (v := .int _ _) rfl rfl) ?_
  refine seqNil ?_
  refine hF3 _ _ ?_; clear hF3
  -- loop
  refine wpBlock ?_
  refine wpLoopS [2, 3, 4, 5, 6, 7, 8, 9, 10, 11, 12, 13, 14, 15, 16, 17, 18, 19, 20, 21, 22] (fun i : Nat => [(3, .int .i64 i)]) (fun i H' => i ≤ w.dlv.length ∧ H' = H) (fun i => w.dlv.length - i) 0 ⟨rfl, trivial⟩ ⟨Nat.zero_le _, rfl⟩ ?_
  rintro i J Hk ⟨hk, e⟩
  obtain rfl := e.symm
  clear e
  refine wpSeq fun F4 hF4 => ?_
  refine wpSeq fun F5 hF5 => ?_
  refine wpRegion ?_
  refine seqQ rfl rfl (yMove (v := .int _ _) rfl rfl) ?_
  refine seqQ rfl rfl (yMove (v := .pointer _) rfl rfl) ?_
  refine seqQ rfl rfl (yNilCheck rfl rfl) ?_
  refine seqQ rfl rfl (yFieldAddr rfl Try.underlying67 rfl Try.sizeOf25 rfl rfl) ?_
  refine seqQ rfl rfl (yLoad rfl Try.underlying25 rfl rfl hD) ?_
  refine seqQ rfl rfl (yLen rfl Try.underlying25 rfl) ?_
  refine seqQ rfl rfl (yLss rfl rfl rfl) ?_
  refine seqNil ?_
  refine hF5 _ _ ?_; clear hF5
  -- if t10
  refine wpIf rfl (fun hpos => ?_) (fun hpos => ?_)
  · skip
    have hk : i < w.dlv.length := by omega
    obtain ⟨p, ep, hp⟩ := hrd.at1 hk
    have hv := o1 i hk
    rw [List.getD_eq_getElem?_getD, List.getElem?_eq_getElem hk] at hv
    replace hv : w.dlv[i] = (i : Int) % 40 := hv
    refine wpSkip ?_
    refine hF4 _ _ ?_; clear hF4
    refine wpSeq fun F6 hF6 => ?_
    refine wpBlock ?_
    refine wpSeq fun F7 hF7 => ?_
    refine wpRegion ?_
    refine seqQ rfl rfl (yMove (v := .pointer _) rfl rfl) ?_
    refine seqQ rfl rfl (yNilCheck rfl rfl) ?_
    refine seqQ rfl rfl (yFieldAddr rfl Try.underlying67 rfl Try.sizeOf25 rfl rfl) ?_
    refine seqQ rfl rfl (yLoad rfl Try.underlying25 rfl rfl hD) ?_
    refine seqQ rfl rfl (yMove (v := .int _ _) rfl rfl) ?_
    refine seqQ rfl rfl (yIdxP1 rfl Try.underlying25 Try.sizeOf3 rfl rfl ep rfl hk) ?_
    refine seqQ rfl rfl (yLoad rfl Try.underlying3 rfl rfl hp) ?_
    refine seqQ rfl rfl (yMove (v := .int _ _) rfl rfl) ?_
    refine seqQ rfl rfl (yRem rfl rfl rfl (by omega)) ?_
    refine seqQ rfl rfl (yNeq rfl rfl rfl) ?_
    refine seqNil ?_
    refine hF7 _ _ ?_; clear hF7
    -- if t22
    rw [show (!decide (w.dlv[i] = (i : Int) % 40)) = false by rw [decide_eq_true hv]; rfl]
    refine wpF rfl ?_
    refine wpSkip ?_
    refine hF6 _ _ ?_; clear hF6
    refine wpRegion ?_
    refine seqQ rfl rfl (yMove (v := .int _ _) rfl rfl) ?_
    refine seqQ rfl rfl (yAdd rfl rfl rfl (by unfold In64; omega)) ?_
    refine seqQ rfl rfl (yAssign (v := .int _ _) rfl rfl) ?_
    refine seqNil ?_
    -- end loop
    exact loopEnd (i + 1) (by repeat (first | (with_reducible exact Agree.refl _ _) | refine Agree.upd ?_ rfl | refine Agree.over ?_ rfl)) (by omega) ⟨rfl, trivial⟩ ⟨hk, rfl⟩
  · skip
    refine wpExit ?_
    refine hF2 _ _ ?_; clear hF2
    refine wpSeq fun F8 hF8 => ?_
    refine wpRegionD Try_mixed [.q, .q, .q, .q, .q, .q, .q, .q, .q, .q, .q, .q, .q, .q, .q, .q, .q, .q, .q, .q, .q, .q, .q, .q, .q, .q, .q, .q, .q, .q, .q, .q, .q, .q, .q, .q] 33 [0, 1, 3, 7, 15, 0, 32, 96, 224, 511, 1023, 2047, 4095, 8191, 16383, 32767, 2047, 67583, 198655, 460799, 1048575, 2097151, 4194303, 8388607, 16777215, 33554431, 67108863, 134217727, 8388607, 276824063, 813694975, 1887436799, 4034920447, 8589934591, 17179869183, 34359738367] [] (by kernel_rfl) _ rfl [0, 1, 2, 3, 4, 5, 6, 7, 8, 9, 10, 11, 12, 13, 14, 15, 16, 17, 18, 19, 20, 21, 22, 23, 24, 25, 26, 27, 28, 29, 30, 31, 32] rfl (by simp) ?_
    refine lexQ rfl rfl rfl rfl (fun H hM => (yMove (v := .pointer _) rfl rfl)) ?_
    refine lexQ rfl rfl rfl rfl (fun H hM => (yNilCheck rfl rfl)) ?_
    refine lexQ rfl rfl rfl rfl (fun H hM => (yFieldAddr rfl Try.underlying67 rfl Try.sizeOf25 rfl rfl)) ?_
    refine lexQ rfl rfl rfl rfl (fun H hM => (yLoad rfl Try.underlying25 rfl rfl (hM.ext.cell hD))) ?_
    refine lexQ rfl rfl rfl rfl (fun H hM => (yLen rfl Try.underlying25 rfl)) ?_
    refine lexQ rfl rfl rfl rfl (fun H hM => (yMove (v := .pointer _) rfl rfl)) ?_
    refine lexQ rfl rfl rfl rfl (fun H hM => (yNilCheck rfl rfl)) ?_
    refine lexQ rfl rfl rfl rfl (fun H hM => (yFieldAddr rfl Try.underlying67 rfl Try.sizeOf3 rfl rfl)) ?_
    refine lexQ rfl rfl rfl rfl (fun H hM => (yLoad rfl Try.underlying3 rfl rfl (hM.ext.cell hO))) ?_
    refine lexQ rfl rfl rfl rfl (fun H hM => (yLeq rfl rfl rfl)) ?_
    -- guard t33
    rw [decide_eq_true o2]
    refine lexQ rfl rfl rfl rfl (fun H hM => (yMove (v := .bool true) rfl rfl)) ?_
    refine lexQ rfl rfl rfl rfl (fun H hM => (yMove (v := .pointer _) rfl rfl)) ?_
    refine lexQ rfl rfl rfl rfl (fun H hM => (yNilCheck rfl rfl)) ?_
    refine lexQ rfl rfl rfl rfl (fun H hM => (yFieldAddr rfl Try.underlying67 rfl Try.sizeOf25 rfl rfl)) ?_
    refine lexQ rfl rfl rfl rfl (fun H hM => (yLoad rfl Try.underlying25 rfl rfl (hM.ext.cell hD))) ?_
    refine lexQ rfl rfl rfl rfl (fun H hM => (yLen rfl Try.underlying25 rfl)) ?_
    refine lexQ rfl rfl rfl rfl (fun H hM => (yMove (v := .pointer _) rfl rfl)) ?_
    refine lexQ rfl rfl rfl rfl (fun H hM => (yNilCheck rfl rfl)) ?_
    refine lexQ rfl rfl rfl rfl (fun H hM => (yFieldAddr rfl Try.underlying67 rfl Try.sizeOf3 rfl rfl)) ?_
    refine lexQ rfl rfl rfl rfl (fun H hM => (yLoad rfl Try.underlying3 rfl rfl (hM.ext.cell hC))) ?_
    refine lexQ rfl rfl rfl rfl (fun H hM => (yGeq rfl rfl rfl)) ?_
    refine lexQ rfl rfl rfl rfl (fun H hM => (yPickT (v := .bool _) rfl rfl rfl)) ?_
    -- guard t45
    rw [decide_eq_true o3]
    refine lexQ rfl rfl rfl rfl (fun H hM => (yMove (v := .bool true) rfl rfl)) ?_
    refine lexQ rfl rfl rfl rfl (fun H hM => (yMove (v := .pointer _) rfl rfl)) ?_
    refine lexQ rfl rfl rfl rfl (fun H hM => (yNilCheck rfl rfl)) ?_
    refine lexQ rfl rfl rfl rfl (fun H hM => (yFieldAddr rfl Try.underlying67 rfl Try.sizeOf25 rfl rfl)) ?_
    refine lexQ rfl rfl rfl rfl (fun H hM => (yLoad rfl Try.underlying25 rfl rfl (hM.ext.cell hD))) ?_
    refine lexQ rfl rfl rfl rfl (fun H hM => (yLen rfl Try.underlying25 rfl)) ?_
    refine lexQ rfl rfl rfl rfl (fun H hM => (yMove (v := .pointer _) rfl rfl)) ?_
    refine lexQ rfl rfl rfl rfl (fun H hM => (yNilCheck rfl rfl)) ?_
    refine lexQ rfl rfl rfl rfl (fun H hM => (yFieldAddr rfl Try.underlying67 rfl Try.sizeOf3 rfl rfl)) ?_
    refine lexQ rfl rfl rfl rfl (fun H hM => (yLoad rfl Try.underlying3 rfl rfl (hM.ext.cell hC))) ?_
    refine lexQ rfl rfl rfl rfl (fun H hM => (yAdd rfl rfl rfl (by unfold In64; omega))) ?_
    -- tail
    refine lexNil0 rfl (fun hM => ?_)
    refine seqQ rfl rfl (yLeq rfl rfl rfl) ?_
    refine seqQ rfl rfl (yPickT (v := .bool _) rfl rfl rfl) ?_
    refine seqQ rfl rfl (yAssign (v := .bool _) rfl rfl) ?_
    refine seqNil ?_
    refine hF8 _ _ ?_; clear hF8
    -- ret
    refine wpRet (fin1 (v := .bool _) rfl rfl ?_)
    exact ⟨by rw [decide_eq_true o4], rfl⟩
end Go.Proofs.Ytcfnmklbkhibgaa
