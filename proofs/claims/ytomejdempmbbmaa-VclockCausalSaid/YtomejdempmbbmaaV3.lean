/- The first check of the statements of layer 7. -/
import Derived.Test.YtomejdempmbbmaaV2
namespace Go.Proofs.Ytomejdempmbbmaa
open Go.RowKit

theorem awake_c (H : Heap) : CallsH Try.prog 9 [] H fun v H' => v = .bool true ∧ Ext H H' := by
  have e1 : tickF [0, 2] 0 = (0, [1, 2]) := by decide
  have e2 : joinF [1, 2] [0, 5] = (0, [1, 5]) := by decide
  refine callsH_of Try.func9 rfl Try.ntmps9 (Nat.le_of_ble_eq_true rfl) ?_
  refine wpSeq fun F1 hF1 => ?_
  refine wpRegion ?_
  refine seqQ rfl rfl (yAssign (v := .bool _) rfl rfl) ?_
  refine seqNil ?_
  refine hF1 _ _ ?_; clear hF1
  refine wpSeq fun F2 hF2 => ?_
  refine wpRegion ?_
  refine seqN rfl rfl (nBuildSlice (vs := [_, _]) rfl Try.underlying26 Try.sizeOf3 Try.zeroValue3 rfl rfl rfl rfl) (fun g6 H6 hx6 hB6 hg6 hl6 => ?_)
  -- e slot 7: call F20<farandole/vclock.Tick> t6 [i:i64:0]
  refine seqE rfl rfl (stepCall rfl Try.call20 rfl ?_)
  refine (tick_c _ _ [0, 2] 0 H6 (Blk.rd (c := eInt) (l := [0, 2]) hB6) (by simp)).mono ?_
  rintro v H1 ⟨hx1, s, rfl, hown1⟩
  rw [e1] at hown1 ⊢
  obtain ⟨A1, c1, rfl, -, hr1, -⟩ := hown1.form
  refine seqQ rfl rfl (yMove (v := .tuple _) rfl rfl) ?_
  refine seqQ rfl rfl (yExtract (v := .slice _ _ _) rfl rfl rfl) ?_
  refine seqQ rfl rfl (yExtract (v := .int _ _) rfl rfl rfl) ?_
  refine seqQ rfl rfl (yAssign (v := .slice _ _ _) rfl rfl) ?_
  refine seqQ rfl rfl (yAssign (v := .int _ _) rfl rfl) ?_
  refine seqNil ?_
  refine hF2 _ _ ?_; clear hF2
  refine wpSeq fun F3 hF3 => ?_
  refine wpRegion ?_
  refine seqQ rfl rfl (yMove (v := .slice _ _ _) rfl rfl) ?_
  refine seqN rfl rfl (nBuildSlice (vs := [_, _]) rfl Try.underlying26 Try.sizeOf3 Try.zeroValue3 rfl rfl rfl rfl) (fun g12 H12 hx12 hB12 hg12 hl12 => ?_)
  -- e slot 13: call F19<farandole/vclock.Join> t11 t12
  refine seqE rfl rfl (stepCall rfl Try.call19 rfl ?_)
  refine (join_c _ _ _ _ [1, 2] [0, 5] H12 (hr1.ext hx12) (Blk.rd (c := eInt) (l := [0, 5]) hB12) (by simp) (by simp)).mono ?_
  rintro v H2 ⟨hx2, s, rfl, hown2⟩
  rw [e2] at hown2 ⊢
  obtain ⟨A2, c2, rfl, -, hr2, -⟩ := hown2.form
  refine seqQ rfl rfl (yMove (v := .tuple _) rfl rfl) ?_
  refine seqQ rfl rfl (yExtract (v := .slice _ _ _) rfl rfl rfl) ?_
  refine seqQ rfl rfl (yExtract (v := .int _ _) rfl rfl rfl) ?_
  refine seqQ rfl rfl (yAssign (v := .slice _ _ _) rfl rfl) ?_
  refine seqQ rfl rfl (yAssign (v := .int _ _) rfl rfl) ?_
  refine seqNil ?_
  refine hF3 _ _ ?_; clear hF3
  refine wpSeq fun F4 hF4 => ?_
  refine wpRegion ?_
  refine seqQ rfl rfl (yMove (v := .int _ _) rfl rfl) ?_
  refine seqQ rfl rfl (yEql rfl rfl rfl) ?_
  refine seqQ rfl rfl (yMove (v := .bool true) rfl rfl) ?_
  refine seqQ rfl rfl (yMove (v := .int _ _) rfl rfl) ?_
  refine seqQ rfl rfl (yEql rfl rfl rfl) ?_
  refine seqQ rfl rfl (yPickT (v := .bool _) rfl rfl rfl) ?_
  refine seqQ rfl rfl (yMove (v := .bool true) rfl rfl) ?_
  refine seqQ rfl rfl (yMove (v := .slice _ _ _) rfl rfl) ?_
  refine seqN rfl rfl (nBuildSlice (vs := [_, _]) rfl Try.underlying26 Try.sizeOf3 Try.zeroValue3 rfl rfl rfl rfl) (fun g24 H24 hx24 hB24 hg24 hl24 => ?_)
  -- e slot 25: call F17<farandole/vclock.Equal> t23 t24
  refine seqE rfl rfl (stepCall rfl Try.call17 rfl ?_)
  refine (equal_c _ _ _ _ [1, 5] [1, 5] H24 (hr2.ext hx24) (Blk.rd (c := eInt) (l := [1, 5]) hB24) (by simp) (by simp)).mono ?_
  rintro v H3 ⟨rfl, rfl⟩
  refine seqQ rfl rfl (yPickT (v := .bool _) rfl rfl rfl) ?_
  refine seqQ rfl rfl (yMove (v := .bool true) rfl rfl) ?_
  refine seqQ rfl rfl (yMove (v := .slice _ _ _) rfl rfl) ?_
  refine seqQ rfl rfl (yMove (v := .slice _ _ _) rfl rfl) ?_
  -- e slot 30: call F13<farandole/vclock.Before> t28 t29
  refine seqE rfl rfl (stepCall rfl Try.call13 rfl ?_)
  refine (before_c _ _ _ _ [1, 2] [1, 5] H3 (((hr1.ext hx12).ext hx2).ext hx24) (hr2.ext hx24) (by simp) (by simp)).mono ?_
  rintro v H4 ⟨rfl, rfl⟩
  refine seqQ rfl rfl (yPickT (v := .bool _) rfl rfl rfl) ?_
  refine seqQ rfl rfl (yMove (v := .bool true) rfl rfl) ?_
  refine seqN rfl rfl (nBuildSlice (vs := [_, _]) rfl Try.underlying26 Try.sizeOf3 Try.zeroValue3 rfl rfl rfl rfl) (fun g33 H33 hx33 hB33 hg33 hl33 => ?_)
  refine seqN rfl rfl (nBuildSlice (vs := [_, _]) rfl Try.underlying26 Try.sizeOf3 Try.zeroValue3 rfl rfl rfl rfl) (fun g34 H34 hx34 hB34 hg34 hl34 => ?_)
  -- e slot 35: call F15<farandole/vclock.Concurrent> t33 t34
  refine seqE rfl rfl (stepCall rfl Try.call15 rfl ?_)
  refine (concurrent_c _ _ _ _ [1, 0] [0, 1] H34 (Rd.ext (Blk.rd (c := eInt) (l := [1, 0]) hB33) hx34) (Blk.rd (c := eInt) (l := [0, 1]) hB34) (by simp) (by simp)).mono ?_
  rintro v H5 ⟨rfl, rfl⟩
  refine seqQ rfl rfl (yPickT (v := .bool _) rfl rfl rfl) ?_
  refine seqQ rfl rfl (yMove (v := .bool true) rfl rfl) ?_
  refine seqQ rfl rfl (yMove (v := .slice _ _ _) rfl rfl) ?_
  -- e slot 39: call F11<farandole/vclock.Valid> t38
  refine seqE rfl rfl (stepCall rfl Try.call11 rfl ?_)
  refine (valid_c _ _ [1, 5] H5 (((hr2.ext hx24).ext hx33).ext hx34) (by simp)).mono ?_
  rintro v H7 ⟨rfl, rfl⟩
  refine seqQ rfl rfl (yPickT (v := .bool _) rfl rfl rfl) ?_
  refine seqQ rfl rfl (yAssign (v := .bool _) rfl rfl) ?_
  refine seqNil ?_
  refine hF4 _ _ ?_; clear hF4
  -- ret
  refine wpRet (fin1 (v := .bool _) rfl rfl ?_)
  exact ⟨rfl, ((((hx6.trans hx1).trans (hx12.trans hx2)).trans hx24).trans hx33).trans hx34⟩
end Go.Proofs.Ytomejdempmbbmaa
