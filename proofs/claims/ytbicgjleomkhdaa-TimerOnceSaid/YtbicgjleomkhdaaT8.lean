/- Package timer: the document's example; tables as arguments. -/
import Derived.Test.YtbicgjleomkhdaaT7
import Derived.Test.YtbicgjleomkhdaaLH
namespace Go.Proofs.Ytbicgjleomkhdaa
open Go.ChangeShapes Go.WideShapes Go.ChangeAt Go.RowKit Go.Deep

set_option maxRecDepth 100000 in
theorem tx1 : setT [] 7 20 = (0, [(20, 7)]) := by kernel_rfl
set_option maxRecDepth 100000 in
theorem tx2 : setT [(20, 7)] 3 20 = (0, [(20, 3), (20, 7)]) := by kernel_rfl
set_option maxRecDepth 100000 in
theorem tx3 : expT [(20, 3), (20, 7)] 19 = ([(20, 3), (20, 7)], []) := by kernel_rfl
set_option maxRecDepth 100000 in
theorem tx4 : expT [(20, 3), (20, 7)] 20 = ([], [3, 7]) := by kernel_rfl
set_option maxRecDepth 100000 in
theorem tmAwake_c (H : Heap) : CallsH Try.prog 8 [] H fun v H' => v = .bool true ∧ Ext H H' := by
  refine callsH_of Try.func8 rfl Try.ntmps8 (Nat.le_of_ble_eq_true rfl) ?_
  refine wpSeq fun F1 hF1 => ?_
  refine wpRegion ?_
  refine seqQ rfl rfl (yAssign (v := .bool _) rfl rfl) ?_
  refine seqNil ?_
  refine hF1 _ _ ?_; clear hF1
  refine wpSeq fun F2 hF2 => ?_
  refine wpRegion ?_
  -- e slot 9: call F19<farandole/timer.Set> [nilslice:0:0] [i:i64:7] [i:i64:20]
  refine seqE rfl rfl (stepCall rfl Try.call19 rfl ?_)
  have hc := set_c none 0 [] 7 20 H (Rd.nil _ _) (by simp)
  rw [tx1] at hc
  refine hc.mono ?_
  rintro v H1 ⟨V1, c1, rfl, o1, x1⟩
  refine seqQ rfl rfl (yMove (v := .tuple _) rfl rfl) ?_
  refine seqQ rfl rfl (yExtract (v := .slice _ _ _) rfl rfl rfl) ?_
  refine seqQ rfl rfl (yExtract (v := .int _ _) rfl rfl rfl) ?_
  refine seqQ rfl rfl (yAssign (v := .slice _ _ _) rfl rfl) ?_
  refine seqQ rfl rfl (yAssign (v := .int _ _) rfl rfl) ?_
  refine seqNil ?_
  refine hF2 _ _ ?_; clear hF2
  refine wpSeq fun F3 hF3 => ?_
  refine wpRegion ?_
  refine seqQ rfl rfl (yMove (v := .slice _ _ _) rfl rfl) ?_
  -- e slot 14: call F19<farandole/timer.Set> t13 [i:i64:3] [i:i64:20]
  refine seqE rfl rfl (stepCall rfl Try.call19 rfl ?_)
  have hc := set_c V1 c1 [(20, 7)] 3 20 H1 (Own.rd o1).2 (by simp)
  rw [tx2] at hc
  refine hc.mono ?_
  rintro v H2 ⟨V2, c2, rfl, o2, x2⟩
  have l2 : 2 ≤ c2 := by
    obtain ⟨_, _, e, hle, -⟩ := o2.form
    injection e with _ _ e
    rw [e]
    exact hle
  refine seqQ rfl rfl (yMove (v := .tuple _) rfl rfl) ?_
  refine seqQ rfl rfl (yExtract (v := .slice _ _ _) rfl rfl rfl) ?_
  refine seqQ rfl rfl (yExtract (v := .int _ _) rfl rfl rfl) ?_
  refine seqQ rfl rfl (yAssign (v := .slice _ _ _) rfl rfl) ?_
  refine seqQ rfl rfl (yAssign (v := .int _ _) rfl rfl) ?_
  refine seqNil ?_
  refine hF3 _ _ ?_; clear hF3
  refine wpSeq fun F4 hF4 => ?_
  refine wpRegion ?_
  refine seqQ rfl rfl (yMove (v := .slice _ _ _) rfl rfl) ?_
  -- e slot 19: call F10<farandole/timer.Expire> t18 [i:i64:19]
  refine seqE rfl rfl (stepCall rfl Try.call10 rfl ?_)
  have hc := expire_c V2 c2 [(20, 3), (20, 7)] 19 H2 (Own.rd o2).2 (by simp) l2
  rw [tx3] at hc
  refine hc.mono ?_
  rintro v H3 ⟨V3, c3, W3, d3, rfl, o3, q3, x3⟩
  refine seqQ rfl rfl (yMove (v := .tuple _) rfl rfl) ?_
  refine seqQ rfl rfl (yExtract (v := .slice _ _ _) rfl rfl rfl) ?_
  refine seqQ rfl rfl (yExtract (v := .slice _ _ _) rfl rfl rfl) ?_
  refine seqQ rfl rfl (yAssign (v := .slice _ _ _) rfl rfl) ?_
  refine seqQ rfl rfl (yAssign (v := .slice _ _ _) rfl rfl) ?_
  refine seqNil ?_
  refine hF4 _ _ ?_; clear hF4
  refine wpSeq fun F5 hF5 => ?_
  refine wpRegion ?_
  refine seqQ rfl rfl (yMove (v := .slice _ _ _) rfl rfl) ?_
  -- e slot 24: call F10<farandole/timer.Expire> t23 [i:i64:20]
  refine seqE rfl rfl (stepCall rfl Try.call10 rfl ?_)
  have hc := expire_c V2 c2 [(20, 3), (20, 7)] 20 H3 ((Own.rd o2).2.ext x3) (by simp) l2
  rw [tx4] at hc
  refine hc.mono ?_
  rintro v H4 ⟨V4, c4, W4, d4, rfl, o4, q4, x4⟩
  refine seqQ rfl rfl (yMove (v := .tuple _) rfl rfl) ?_
  refine seqQ rfl rfl (yExtract (v := .slice _ _ _) rfl rfl rfl) ?_
  refine seqQ rfl rfl (yExtract (v := .slice _ _ _) rfl rfl rfl) ?_
  refine seqQ rfl rfl (yAssign (v := .slice _ _ _) rfl rfl) ?_
  refine seqQ rfl rfl (yAssign (v := .slice _ _ _) rfl rfl) ?_
  refine seqNil ?_
  refine hF5 _ _ ?_; clear hF5
  refine wpSeq fun F6 hF6 => ?_
  refine wpRegion ?_
  refine seqQ rfl rfl (yMove (v := .int _ _) rfl rfl) ?_
  refine seqQ rfl rfl (yEql rfl rfl rfl) ?_
  refine seqQ rfl rfl (yMove (v := .bool true) rfl rfl) ?_
  refine seqQ rfl rfl (yMove (v := .int _ _) rfl rfl) ?_
  refine seqQ rfl rfl (yEql rfl rfl rfl) ?_
  refine seqQ rfl rfl (yPickT (v := .bool _) rfl rfl rfl) ?_
  refine seqQ rfl rfl (yMove (v := .bool true) rfl rfl) ?_
  refine seqQ rfl rfl (yMove (v := .slice _ _ _) rfl rfl) ?_
  refine seqQ rfl rfl (yLen rfl Try.underlying27 rfl) ?_
  refine seqQ rfl rfl (yEql rfl rfl rfl) ?_
  refine seqQ rfl rfl (yPickT (v := .bool _) rfl rfl rfl) ?_
  refine seqQ rfl rfl (yMove (v := .bool true) rfl rfl) ?_
  refine seqQ rfl rfl (yMove (v := .slice _ _ _) rfl rfl) ?_
  refine seqQ rfl rfl (yLen rfl Try.underlying26 rfl) ?_
  refine seqQ rfl rfl (yEql rfl rfl rfl) ?_
  refine seqQ rfl rfl (yPickT (v := .bool _) rfl rfl rfl) ?_
  refine seqQ rfl rfl (yMove (v := .bool true) rfl rfl) ?_
  refine seqQ rfl rfl (yMove (v := .slice _ _ _) rfl rfl) ?_
  refine seqN rfl rfl (nBuildSlice (vs := [.int _ _, .int _ _]) rfl Try.underlying27 Try.sizeOf3 Try.zeroValue3 rfl rfl rfl rfl) (fun g45 H45 hx45 hB45 hg45 hl45 => ?_)
  -- e slot 46: call F14<farandole/farandoleref01.SameInts> t44 t45
  refine seqE rfl rfl (stepCall rfl Try.call14 rfl ?_)
  refine (sameI_c W4 (some ⟨g45, 0, none⟩) d4 2 [3, 7] [3, 7] H45 ((Own.rd q4).2.ext hx45) (Blk.rd (c := eInt) (l := [3, 7]) hB45) (by simp)).mono ?_
  rintro v _ ⟨rfl, e⟩; obtain rfl := e.symm; clear e
  refine seqQ rfl rfl (yPickT (v := .bool _) rfl rfl rfl) ?_
  refine seqQ rfl rfl (yAssign (v := .bool _) rfl rfl) ?_
  refine seqNil ?_
  refine hF6 _ _ ?_; clear hF6
  -- ret
  refine wpRet (fin1 (v := .bool _) rfl rfl ?_)
  exact ⟨rfl, (((x1.trans x2).trans x3).trans x4).trans hx45⟩
set_option maxRecDepth 100000 in
theorem opn_tm (W : World) : Opn Try.prog W 42 2 eTm.F (fun x : Tm => In64 x.1 ∧ In64 x.2) :=
  (opn_struct Try.underlying42 (by kernel_rfl) (opnF_cons rfl (opn_int Try.underlying3 (by kernel_rfl)) (opnF_cons rfl (opn_int Try.underlying3 (by kernel_rfl)) (opnF_nil rfl)))).map
    (fun a => ((a.1, a.2.1) : Tm)) (fun _ => rfl) (fun _ h => ⟨h.1, h.2.1⟩)
set_option maxRecDepth 100000 in
theorem opn_tms (W : World) : Opn Try.prog W 22 1 (fun a : Option Addr × Nat × List Tm => [.slice a.1 a.2.2.length a.2.1]) (fun a => Rd eTm W.heap a.1 a.2.2 ∧ (∀ x ∈ a.2.2, In64 x.1 ∧ In64 x.2) ∧ a.2.2.length ≤ a.2.1 ∧ a.2.1 ≤ maxLen) :=
  opn_slice (c := eTm) Try.underlying22 (by kernel_rfl) (opn_tm W)
end Go.Proofs.Ytbicgjleomkhdaa
