/- TimerSet: Valid, Set, Cancel and Find return the specified results for any table. Conditions: none beyond the statement's. -/
import Derived.Test.YtbicgjleomkhdaaT8
namespace Go.Proofs.Ytbicgjleomkhdaa
open Go.ChangeShapes Go.WideShapes Go.ChangeAt Go.RowKit Go.Deep

set_option maxRecDepth 100000 in
theorem valid_nil : ValidT [] := ⟨fun i hi => absurd hi (by simp), by simp⟩
set_option maxRecDepth 100000 in
theorem valid_setT (t : List Tm) (id a : Int) : ValidT (setT t id a).2 := by
  by_cases hv : ValidT t
  · by_cases ho : okT (a, id)
    · by_cases hf : 300 ≤ (woutT t id).length
      · rw [setT_full hv ho hf]
        exact valid_nil
      · rw [setT_ok hv ho hf]
        exact insT_valid (hv.sub (woutT_sub t id)) ho (fun y hy => (mem_wout.1 hy).2) (by omega)
    · rw [setT_range hv ho]
      exact valid_nil
  · rw [setT_bad hv]
    exact valid_nil
set_option maxRecDepth 100000 in
theorem valid_cancelT (t : List Tm) (id : Int) : ValidT (cancelT t id).2 := by
  by_cases hv : ValidT t
  · by_cases hf : (woutT t id).length = t.length
    · rw [cancelT_none hv hf]
      exact valid_nil
    · rw [cancelT_ok hv hf]
      exact hv.sub (woutT_sub t id)
  · rw [cancelT_bad hv]
    exact valid_nil
set_option maxRecDepth 100000 in
theorem valid_expT (t : List Tm) (now : Int) : ValidT (expT t now).1 := by
  by_cases hv : ValidT t
  · rw [expT_ok hv]
    exact hv.sub (List.dropWhile_sublist _)
  · rw [expT_bad hv]
    exact valid_nil
set_option maxRecDepth 100000 in
theorem tset_walk (A : Option Addr) (ca : Nat) (l : List Tm) (id a : Int) (H : Heap) (hA : Rd eTm H A l) (hl : l.length ≤ 9223372036854775807) :
    CallsH Try.prog 5 [.slice A l.length ca, .int .i64 id, .int .i64 a] H fun v H' => v = .bool true ∧ Ext H H' := by
  have ls := (valid_setT l id a).2
  have lc := (valid_cancelT l id).2
  refine callsH_of Try.func5 rfl Try.ntmps5 (Nat.le_of_ble_eq_true rfl) ?_
  refine wpSeq fun F1 hF1 => ?_
  refine wpRegion ?_
  refine seqQ rfl rfl (yAssign (v := .bool _) rfl rfl) ?_
  refine seqNil ?_
  refine hF1 _ _ ?_; clear hF1
  refine wpSeq fun F2 hF2 => ?_
  refine wpSeq fun F3 hF3 => ?_
  refine wpRegion ?_
  -- e slot 19: call F8<farandole/farandolelaw49.awake> 
  refine seqE rfl rfl (stepCall rfl Try.call8 rfl ?_)
  refine (tmAwake_c _).mono ?_
  rintro v Ha ⟨rfl, xa⟩
  refine seqQ rfl rfl (yNot rfl rfl) ?_
  refine seqNil ?_
  refine hF3 _ _ ?_; clear hF3
  -- if t20
  refine wpF rfl ?_
  refine wpSkip ?_
  refine hF2 _ _ ?_; clear hF2
  refine wpSeq fun F4 hF4 => ?_
  refine wpSeq fun F5 hF5 => ?_
  refine wpRegion ?_
  refine seqQ rfl rfl (yMove (v := .slice _ _ _) rfl rfl) ?_
  refine seqQ rfl rfl (yLen rfl Try.underlying22 rfl) ?_
  refine seqQ rfl rfl (yGtr rfl rfl rfl) ?_
  refine seqNil ?_
  refine hF5 _ _ ?_; clear hF5
  -- if t23
  refine wpIf rfl (fun h320 => ?_) (fun h320 => ?_)
  · skip
    refine wpSeq fun F6 hF6 => ?_
    refine wpRegion ?_
    refine seqQ rfl rfl (yAssign (v := .bool _) rfl rfl) ?_
    refine seqNil ?_
    refine hF6 _ _ ?_; clear hF6
    -- ret
    refine wpRet (fin1 (v := .bool _) rfl rfl ?_)
    exact ⟨rfl, xa⟩
  · skip
    have hl : l.length ≤ 320 := by omega
    refine wpSkip ?_
    refine hF4 _ _ ?_; clear hF4
    refine wpSeq fun F7 hF7 => ?_
    refine wpRegion ?_
    refine seqQ rfl rfl (yMove (v := .slice _ _ _) rfl rfl) ?_
    -- e slot 26: call F11<farandole/farandolelaw49.to> t25
    refine seqE rfl rfl (stepCall rfl Try.call11 rfl ?_)
    refine (toT_c A ca l Ha (hA.ext xa) (by omega)).mono ?_
    rintro v H1 ⟨o1, x1⟩
    obtain ⟨V1, c1, rfl, -⟩ := o1.form
    replace x1 := xa.trans x1
    clear xa
    refine seqQ rfl rfl (yMove (v := .int _ _) rfl rfl) ?_
    refine seqQ rfl rfl (yMove (v := .int _ _) rfl rfl) ?_
    -- e slot 29: call F19<farandole/timer.Set> t26 t27 t28
    refine seqE rfl rfl (stepCall rfl Try.call19 rfl ?_)
    refine (set_c V1 c1 l id a H1 (Own.rd o1).2 (by omega)).mono ?_
    rintro v H2 ⟨V2, c2, rfl, o2, x2⟩
    have r2 := (Own.rd o2).2
    replace x2 := x1.trans x2
    clear x1 o1 o2
    refine seqQ rfl rfl (yMove (v := .tuple _) rfl rfl) ?_
    refine seqQ rfl rfl (yExtract (v := .slice _ _ _) rfl rfl rfl) ?_
    refine seqQ rfl rfl (yExtract (v := .int _ _) rfl rfl rfl) ?_
    refine seqQ rfl rfl (yAssign (v := .slice _ _ _) rfl rfl) ?_
    refine seqQ rfl rfl (yAssign (v := .int _ _) rfl rfl) ?_
    refine seqNil ?_
    refine hF7 _ _ ?_; clear hF7
    refine wpSeq fun F8 hF8 => ?_
    refine wpRegion ?_
    refine seqQ rfl rfl (yMove (v := .slice _ _ _) rfl rfl) ?_
    refine seqQ rfl rfl (yMove (v := .int _ _) rfl rfl) ?_
    refine seqQ rfl rfl (yMove (v := .int _ _) rfl rfl) ?_
    -- e slot 36: call F20<farandole/farandoleref49.Set> t33 t34 t35
    refine seqE rfl rfl (stepCall rfl Try.call20 rfl ?_)
    refine (rSet_c A ca l id a H2 (hA.ext x2) (by omega)).mono ?_
    rintro v H3 ⟨V3, c3, rfl, r3, x3⟩
    replace r2 := r2.ext x3
    replace x3 := x2.trans x3
    clear x2
    refine seqQ rfl rfl (yMove (v := .tuple _) rfl rfl) ?_
    refine seqQ rfl rfl (yExtract (v := .slice _ _ _) rfl rfl rfl) ?_
    refine seqQ rfl rfl (yExtract (v := .int _ _) rfl rfl rfl) ?_
    refine seqQ rfl rfl (yAssign (v := .slice _ _ _) rfl rfl) ?_
    refine seqQ rfl rfl (yAssign (v := .int _ _) rfl rfl) ?_
    refine seqNil ?_
    refine hF8 _ _ ?_; clear hF8
    refine wpSeq fun F9 hF9 => ?_
    refine wpRegion ?_
    refine seqQ rfl rfl (yMove (v := .slice _ _ _) rfl rfl) ?_
    -- e slot 41: call F11<farandole/farandolelaw49.to> t40
    refine seqE rfl rfl (stepCall rfl Try.call11 rfl ?_)
    refine (toT_c A ca l H3 (hA.ext x3) (by omega)).mono ?_
    rintro v H4 ⟨o4, x4⟩
    obtain ⟨V4, c4, rfl, -⟩ := o4.form
    replace r2 := r2.ext x4
    replace r3 := r3.ext x4
    replace x4 := x3.trans x4
    clear x3
    refine seqQ rfl rfl (yMove (v := .int _ _) rfl rfl) ?_
    -- e slot 43: call F21<farandole/timer.Cancel> t41 t42
    refine seqE rfl rfl (stepCall rfl Try.call21 rfl ?_)
    refine (cancel_c V4 c4 l id H4 (Own.rd o4).2 (by omega)).mono ?_
    rintro v H5 ⟨V5, c5, rfl, o5, x5⟩
    have r5 := (Own.rd o5).2
    replace r2 := r2.ext x5
    replace r3 := r3.ext x5
    replace x5 := x4.trans x5
    clear x4 o4 o5
    refine seqQ rfl rfl (yMove (v := .tuple _) rfl rfl) ?_
    refine seqQ rfl rfl (yExtract (v := .slice _ _ _) rfl rfl rfl) ?_
    refine seqQ rfl rfl (yExtract (v := .int _ _) rfl rfl rfl) ?_
    refine seqQ rfl rfl (yAssign (v := .slice _ _ _) rfl rfl) ?_
    refine seqQ rfl rfl (yAssign (v := .int _ _) rfl rfl) ?_
    refine seqNil ?_
    refine hF9 _ _ ?_; clear hF9
    refine wpSeq fun F10 hF10 => ?_
    refine wpRegion ?_
    refine seqQ rfl rfl (yMove (v := .slice _ _ _) rfl rfl) ?_
    refine seqQ rfl rfl (yMove (v := .int _ _) rfl rfl) ?_
    -- e slot 49: call F22<farandole/farandoleref49.Cancel> t47 t48
    refine seqE rfl rfl (stepCall rfl Try.call22 rfl ?_)
    refine (rCancel_c A ca l id H5 (hA.ext x5) (by omega)).mono ?_
    rintro v H6 ⟨V6, c6, rfl, r6, x6⟩
    replace r2 := r2.ext x6
    replace r3 := r3.ext x6
    replace r5 := r5.ext x6
    replace x6 := x5.trans x6
    clear x5
    refine seqQ rfl rfl (yMove (v := .tuple _) rfl rfl) ?_
    refine seqQ rfl rfl (yExtract (v := .slice _ _ _) rfl rfl rfl) ?_
    refine seqQ rfl rfl (yExtract (v := .int _ _) rfl rfl rfl) ?_
    refine seqQ rfl rfl (yAssign (v := .slice _ _ _) rfl rfl) ?_
    refine seqQ rfl rfl (yAssign (v := .int _ _) rfl rfl) ?_
    refine seqNil ?_
    refine hF10 _ _ ?_; clear hF10
    refine wpSeq fun F11 hF11 => ?_
    refine wpRegion ?_
    refine seqQ rfl rfl (yMove (v := .slice _ _ _) rfl rfl) ?_
    -- e slot 54: call F11<farandole/farandolelaw49.to> t53
    refine seqE rfl rfl (stepCall rfl Try.call11 rfl ?_)
    refine (toT_c A ca l H6 (hA.ext x6) (by omega)).mono ?_
    rintro v H7 ⟨o7, x7⟩
    obtain ⟨V7, c7, rfl, -⟩ := o7.form
    replace r2 := r2.ext x7
    replace r3 := r3.ext x7
    replace r5 := r5.ext x7
    replace r6 := r6.ext x7
    replace x7 := x6.trans x7
    clear x6
    refine seqQ rfl rfl (yMove (v := .int _ _) rfl rfl) ?_
    -- e slot 56: call F23<farandole/timer.Find> t54 t55
    refine seqE rfl rfl (stepCall rfl Try.call23 rfl ?_)
    refine (tFind_c V7 c7 l id H7 (Own.rd o7).2 (by omega)).mono ?_
    rintro v H8 ⟨rfl, x8⟩
    replace r2 := r2.ext x8
    replace r3 := r3.ext x8
    replace r5 := r5.ext x8
    replace r6 := r6.ext x8
    replace x8 := x7.trans x8
    clear x7 o7
    refine seqQ rfl rfl (yMove (v := .tuple _) rfl rfl) ?_
    refine seqQ rfl rfl (yExtract (v := .int _ _) rfl rfl rfl) ?_
    refine seqQ rfl rfl (yExtract (v := .bool _) rfl rfl rfl) ?_
    refine seqQ rfl rfl (yAssign (v := .int _ _) rfl rfl) ?_
    refine seqQ rfl rfl (yAssign (v := .bool _) rfl rfl) ?_
    refine seqNil ?_
    refine hF11 _ _ ?_; clear hF11
    refine wpSeq fun F12 hF12 => ?_
    refine wpRegion ?_
    refine seqQ rfl rfl (yMove (v := .slice _ _ _) rfl rfl) ?_
    refine seqQ rfl rfl (yMove (v := .int _ _) rfl rfl) ?_
    -- e slot 62: call F15<farandole/farandoleref49.Find> t60 t61
    refine seqE rfl rfl (stepCall rfl Try.call15 rfl ?_)
    refine (rFind_c A ca l id H8 (hA.ext x8) (by omega)).mono ?_
    rintro v _ ⟨rfl, e⟩; obtain rfl := e.symm; clear e
    refine seqQ rfl rfl (yMove (v := .tuple _) rfl rfl) ?_
    refine seqQ rfl rfl (yExtract (v := .int _ _) rfl rfl rfl) ?_
    refine seqQ rfl rfl (yExtract (v := .bool _) rfl rfl rfl) ?_
    refine seqQ rfl rfl (yAssign (v := .int _ _) rfl rfl) ?_
    refine seqQ rfl rfl (yAssign (v := .bool _) rfl rfl) ?_
    refine seqNil ?_
    refine hF12 _ _ ?_; clear hF12
    refine wpSeq fun F13 hF13 => ?_
    refine wpRegion ?_
    refine seqQ rfl rfl (yMove (v := .int _ _) rfl rfl) ?_
    refine seqQ rfl rfl (yMove (v := .int _ _) rfl rfl) ?_
    refine seqQ rfl rfl (yEql rfl rfl rfl) ?_
    -- guard t68
    rw [decide_eq_true (rfl : (setT l id a).1 = (setT l id a).1)]
    refine seqQ rfl rfl (yMove (v := .bool true) rfl rfl) ?_
    refine seqQ rfl rfl (yMove (v := .slice _ _ _) rfl rfl) ?_
    -- e slot 70: call F13<farandole/farandolelaw49.from> t69
    refine seqE rfl rfl (stepCall rfl Try.call13 rfl ?_)
    refine (fromT_c V2 c2 _ H8 r2 (by omega)).mono ?_
    rintro v H9 ⟨o9, x9⟩
    obtain ⟨V9, c9, rfl, -⟩ := o9.form
    refine seqQ rfl rfl (yMove (v := .slice _ _ _) rfl rfl) ?_
    -- e slot 72: call F12<farandole/farandoleref49.Equal> t70 t71
    refine seqE rfl rfl (stepCall rfl Try.call12 rfl ?_)
    refine (rEqualT_c V9 V3 c9 c3 _ _ H9 (Own.rd o9).2 (r3.ext x9) (by omega)).mono ?_
    rintro v _ ⟨rfl, e⟩; obtain rfl := e.symm; clear e
    rw [decide_eq_true (rfl : (setT l id a).2 = (setT l id a).2)]
    refine seqQ rfl rfl (yPickT (v := .bool _) rfl rfl rfl) ?_
    refine seqQ rfl rfl (yMove (v := .bool true) rfl rfl) ?_
    refine seqQ rfl rfl (yMove (v := .int _ _) rfl rfl) ?_
    refine seqQ rfl rfl (yMove (v := .int _ _) rfl rfl) ?_
    refine seqQ rfl rfl (yEql rfl rfl rfl) ?_
    refine seqQ rfl rfl (yPickT (v := .bool _) rfl rfl rfl) ?_
    -- guard t79
    rw [decide_eq_true (rfl : (cancelT l id).1 = (cancelT l id).1)]
    refine seqQ rfl rfl (yMove (v := .bool true) rfl rfl) ?_
    refine seqQ rfl rfl (yMove (v := .slice _ _ _) rfl rfl) ?_
    -- e slot 81: call F13<farandole/farandolelaw49.from> t80
    refine seqE rfl rfl (stepCall rfl Try.call13 rfl ?_)
    refine (fromT_c V5 c5 _ H9 (r5.ext x9) (by omega)).mono ?_
    rintro v H10 ⟨o10, x10⟩
    obtain ⟨V10, c10, rfl, -⟩ := o10.form
    replace r2 := (r2.ext x9).ext x10
    replace r5 := (r5.ext x9).ext x10
    replace r6 := (r6.ext x9).ext x10
    replace x10 := (x8.trans x9).trans x10
    clear x8 x9 o9 r3
    refine seqQ rfl rfl (yMove (v := .slice _ _ _) rfl rfl) ?_
    -- e slot 83: call F12<farandole/farandoleref49.Equal> t81 t82
    refine seqE rfl rfl (stepCall rfl Try.call12 rfl ?_)
    refine (rEqualT_c V10 V6 c10 c6 _ _ H10 (Own.rd o10).2 r6 (by omega)).mono ?_
    rintro v _ ⟨rfl, e⟩; obtain rfl := e.symm; clear e
    rw [decide_eq_true (rfl : (cancelT l id).2 = (cancelT l id).2)]
    refine seqQ rfl rfl (yPickT (v := .bool _) rfl rfl rfl) ?_
    refine seqQ rfl rfl (yMove (v := .bool true) rfl rfl) ?_
    refine seqQ rfl rfl (yMove (v := .int _ _) rfl rfl) ?_
    refine seqQ rfl rfl (yMove (v := .int _ _) rfl rfl) ?_
    refine seqQ rfl rfl (yEql rfl rfl rfl) ?_
    refine seqQ rfl rfl (yPickT (v := .bool _) rfl rfl rfl) ?_
    -- guard t90
    rw [decide_eq_true (rfl : (findT l id).1 = (findT l id).1)]
    refine seqQ rfl rfl (yMove (v := .bool true) rfl rfl) ?_
    refine seqQ rfl rfl (yMove (v := .bool _) rfl rfl) ?_
    refine seqQ rfl rfl (yMove (v := .bool _) rfl rfl) ?_
    refine seqQ rfl rfl (yEqlB rfl Try.underlying4 rfl rfl) ?_
    refine seqQ rfl rfl (yPickT (v := .bool _) rfl rfl rfl) ?_
    -- guard t95
    rw [beq_self_eq_true]
    refine seqQ rfl rfl (yMove (v := .bool true) rfl rfl) ?_
    refine seqQ rfl rfl (yMove (v := .slice _ _ _) rfl rfl) ?_
    -- e slot 97: call F11<farandole/farandolelaw49.to> t96
    refine seqE rfl rfl (stepCall rfl Try.call11 rfl ?_)
    refine (toT_c A ca l H10 (hA.ext x10) (by omega)).mono ?_
    rintro v H11 ⟨o11, x11⟩
    obtain ⟨V11, c11, rfl, -⟩ := o11.form
    -- e slot 98: call F18<farandole/timer.Valid> t97
    refine seqE rfl rfl (stepCall rfl Try.call18 rfl ?_)
    refine (tValid_c V11 c11 l H11 (Own.rd o11).2 (by omega)).mono ?_
    rintro v H12 ⟨rfl, x12⟩
    replace r2 := (r2.ext x11).ext x12
    replace r5 := (r5.ext x11).ext x12
    replace x12 := (x10.trans x11).trans x12
    clear x10 x11 o10 o11 r6
    refine seqQ rfl rfl (yMove (v := .slice _ _ _) rfl rfl) ?_
    -- e slot 100: call F9<farandole/farandoleref49.Valid> t99
    refine seqE rfl rfl (stepCall rfl Try.call9 rfl ?_)
    refine (rValidT_c A ca l H12 (hA.ext x12) (by omega)).mono ?_
    rintro v H13 ⟨rfl, x13⟩
    refine seqQ rfl rfl (yEqlB rfl Try.underlying4 rfl rfl) ?_
    refine seqQ rfl rfl (yPickT (v := .bool _) rfl rfl rfl) ?_
    -- guard t103
    rw [beq_self_eq_true]
    refine seqQ rfl rfl (yMove (v := .bool true) rfl rfl) ?_
    refine seqQ rfl rfl (yMove (v := .slice _ _ _) rfl rfl) ?_
    -- e slot 105: call F18<farandole/timer.Valid> t104
    refine seqE rfl rfl (stepCall rfl Try.call18 rfl ?_)
    refine (tValid_c V2 c2 _ H13 (r2.ext x13) (by omega)).mono ?_
    rintro v H14 ⟨rfl, x14⟩
    rw [decide_eq_true (valid_setT l id a)]
    refine seqQ rfl rfl (yPickT (v := .bool _) rfl rfl rfl) ?_
    refine seqQ rfl rfl (yMove (v := .bool true) rfl rfl) ?_
    refine seqQ rfl rfl (yMove (v := .slice _ _ _) rfl rfl) ?_
    -- e slot 109: call F18<farandole/timer.Valid> t108
    refine seqE rfl rfl (stepCall rfl Try.call18 rfl ?_)
    refine (tValid_c V5 c5 _ H14 ((r5.ext x13).ext x14) (by omega)).mono ?_
    rintro v H15 ⟨rfl, x15⟩
    rw [decide_eq_true (valid_cancelT l id)]
    refine seqQ rfl rfl (yPickT (v := .bool _) rfl rfl rfl) ?_
    refine seqQ rfl rfl (yAssign (v := .bool _) rfl rfl) ?_
    refine seqNil ?_
    refine hF13 _ _ ?_; clear hF13
    -- ret
    refine wpRet (fin1 (v := .bool _) rfl rfl ?_)
    exact ⟨rfl, ((x12.trans x13).trans x14).trans x15⟩
set_option maxRecDepth 100000 in
set_option maxRecDepth 100000 in
theorem timerSet_lifted (os : Os) (started : os.Started) (H : Type) (enc : TypeId × Value → H) :
    ReturnsInHanded {} Try.checked os 5 .any (Rows.timerSetSpec.pre6 enc Try.prog Try.f5 Rows.timerSetRow.domain false) (Rows.timerSetSpec.post enc Try.prog Try.f5 false true false false) := by
  refine law_lifted started Rows.timerSetSpec rfl (by kernel_rfl) Try.func5 rfl
    (fun ds h => by match ds, h with | [_, _, _], _ => rfl) (of_decide_eq_true (by kernel_rfl))
    (ChangeSpec.witness6 (enc := enc) (C := Try.checked) false ⟨#[], #[.slice none 0 0, .int .i64 0, .int .i64 0], []⟩ 8 (by kernel_rfl) (by kernel_rfl) (by kernel_rfl) (by kernel_rfl)) ?_
  intro W base args ds p hval hA
  rw [Try.params5] at hA hval
  obtain ⟨v0, v1, v2, d0, d1, d2, p0, p1, p2, rfl, rfl, rfl, h0, h1, h2⟩ := trodAll_three hA
  have g0 := hval 0 _ v0 rfl rfl
  have g1 := hval 1 _ v1 rfl rfl
  have g2 := hval 2 _ v2 rfl rfl
  obtain ⟨⟨A, ca, l⟩, rfl, kA, -, k2, k3⟩ := (opn_tms W).one (one_slice Try.underlying22 g0) h0
  obtain ⟨id, rfl, -⟩ := (opn_int (W := W) Try.underlying3 (by kernel_rfl)).one (one_int Try.underlying3 g1) h1
  obtain ⟨a, rfl, -⟩ := (opn_int (W := W) Try.underlying3 (by kernel_rfl)).one (one_int Try.underlying3 g2) h2
  exact tset_walk A ca l id a W.heap kA (by have := Nat.le_trans k2 k3; unfold maxLen at this; exact this)
set_option maxRecDepth 100000 in
theorem timerSet_holds : Rows.TimerSetSaid :=
  OpenClaim.holds_of_wide 5 Try.f5 rfl rfl rfl rfl rfl rfl rfl ⟨rfl, rfl, rfl, rfl, rfl⟩ rfl rfl rfl rfl rfl (by kernel_rfl) Try.func5 (by kernel_rfl)
    (of_decide_eq_true (by kernel_rfl)) (by unfold Func.isWrapper; first | (rw [if_pos (by decide +kernel)]; kernel_rfl) | (rw [if_neg (by decide +kernel)]; exact ⟨rfl, rfl⟩))
    (fun os started H enc _ => timerSet_lifted os started H enc)
end Go.Proofs.Ytbicgjleomkhdaa
