/- TimerOrder: expiring in two calls returns the same identifiers, in the same order, as one call at the later time. Conditions: none beyond the statement's. -/
import Derived.Test.YtbicgjleomkhdaaT11
namespace Go.Proofs.Ytbicgjleomkhdaa
open Go.ChangeShapes Go.WideShapes Go.ChangeAt Go.RowKit Go.Deep

set_option maxRecDepth 100000 in
theorem exp_two {t : List Tm} {a b : Int} (h : ValidT t) (hab : a ≤ b) : expT (expT t a).1 b = ((expT t b).1, (expT (expT t a).1 b).2) ∧ (expT t a).2 ++ (expT (expT t a).1 b).2 = (expT t b).2 := by
  rw [expT_ok (valid_expT t a), expT_ok h, expT_ok h]
  clear h
  dsimp only
  induction t with
  | nil => exact ⟨rfl, rfl⟩
  | cons x t ih =>
    obtain ⟨i1, i2⟩ := ih
    by_cases ha : x.1 ≤ a
    · have hb : x.1 ≤ b := by omega
      simp only [List.dropWhile_cons, List.takeWhile_cons, ha, hb, decide_true, if_true, List.map_cons, List.cons_append]
      exact ⟨i1, by rw [i2]⟩
    · simp only [List.dropWhile_cons, List.takeWhile_cons, ha, decide_false, Bool.false_eq_true, if_false, List.map_nil, List.nil_append]
      exact ⟨trivial, trivial⟩
set_option maxRecDepth 100000 in
theorem exp_at {t : List Tm} {b : Int} (h : ValidT t) {k : Nat} (hk : k < (expT t b).2.length) : ∃ hl : k < t.length, (expT t b).2[k] = t[k].2 := by
  have e : (expT t b).2 = (t.takeWhile fun x => decide (x.1 ≤ b)).map (·.2) := by rw [expT_ok h]
  have hk' : k < (t.takeWhile fun x => decide (x.1 ≤ b)).length := by
    rw [e, List.length_map] at hk
    exact hk
  have hl : k < t.length := Nat.lt_of_lt_of_le hk' (List.takeWhile_sublist _).length_le
  refine ⟨hl, ?_⟩
  have e2 : (t.takeWhile fun x => decide (x.1 ≤ b))[k] = t[k] := by
    have hp : (t.takeWhile fun x => decide (x.1 ≤ b)) <+: t := List.takeWhile_prefix _
    exact List.IsPrefix.getElem hp hk'
  simp only [e, List.getElem_map, e2]
set_option maxRecDepth 100000 in
theorem tord_walk (A : Option Addr) (ca : Nat) (l : List Tm) (a b : Int) (H : Heap) (hA : Rd eTm H A l) (hl : l.length ≤ 9223372036854775807) :
    CallsH Try.prog 3 [.slice A l.length ca, .int .i64 a, .int .i64 b] H fun v H' => v = .bool true ∧ Ext H H' := by
  refine callsH_of Try.func3 rfl Try.ntmps3 (Nat.le_of_ble_eq_true rfl) ?_
  refine wpSeq fun F1 hF1 => ?_
  refine wpRegion ?_
  refine seqQ rfl rfl (yAssign (v := .bool _) rfl rfl) ?_
  refine seqNil ?_
  refine hF1 _ _ ?_; clear hF1
  refine wpSeq fun F2 hF2 => ?_
  refine wpSeq fun F3 hF3 => ?_
  refine wpRegion ?_
  -- e slot 17: call F8<farandole/farandolelaw49.awake> 
  refine seqE rfl rfl (stepCall rfl Try.call8 rfl ?_)
  refine (tmAwake_c _).mono ?_
  rintro v Ha ⟨rfl, xa⟩
  refine seqQ rfl rfl (yNot rfl rfl) ?_
  refine seqNil ?_
  refine hF3 _ _ ?_; clear hF3
  -- if t18
  refine wpF rfl ?_
  refine wpSkip ?_
  refine hF2 _ _ ?_; clear hF2
  refine wpSeq fun F4 hF4 => ?_
  refine wpSeq fun F5 hF5 => ?_
  refine wpRegion ?_
  refine seqQ rfl rfl (yMove (v := .slice _ _ _) rfl rfl) ?_
  refine seqQ rfl rfl (yLen rfl Try.underlying22 rfl) ?_
  refine seqQ rfl rfl (yGtr rfl rfl rfl) ?_
  first | refine seqG rfl rfl rfl rfl (fun h22 => ?_) (fun h22 => ?_) | refine seqGB rfl rfl rfl rfl (fun h22 => ?_) (fun h22 => ?_)
  · skip
    refine seqU rfl rfl ?_
    refine seqU rfl rfl ?_
    refine seqU rfl rfl ?_
    refine seqQ rfl rfl (yPickT (v := .bool _) rfl rfl rfl) ?_
    refine seqQ rfl rfl (yMove (v := .bool true) rfl rfl) ?_
    refine seqU rfl rfl ?_
    refine seqU rfl rfl ?_
    refine seqU rfl rfl ?_
    refine seqQ rfl rfl (yPickT (v := .bool _) rfl rfl rfl) ?_
    refine seqNil ?_
    refine hF5 _ _ ?_; clear hF5
    refine wpT rfl ?_
    refine wpSeq fun F6 hF6 => ?_
    refine wpRegion ?_
    refine seqQ rfl rfl (yAssign (v := .bool _) rfl rfl) ?_
    refine seqNil ?_
    refine hF6 _ _ ?_; clear hF6
    refine wpRet (fin1 (v := .bool _) rfl rfl ?_)
    exact ⟨rfl, xa⟩
  refine seqQ rfl rfl (yMove (v := .slice _ _ _) rfl rfl) ?_
  -- e slot 24: call F9<farandole/farandoleref49.Valid> t23
  have hl : l.length ≤ 320 := by omega
  refine seqE rfl rfl (stepCall rfl Try.call9 rfl ?_)
  refine (rValidT_c A ca l Ha (hA.ext xa) (by omega)).mono ?_
  rintro v Hv ⟨rfl, xv⟩
  replace xv := xa.trans xv
  clear xa
  refine seqQ rfl rfl (yNot rfl rfl) ?_
  refine seqQ rfl rfl (yPickF (v := .bool _) rfl rfl rfl) ?_
  first | refine seqG rfl rfl rfl rfl (fun h27 => ?_) (fun h27 => ?_) | refine seqGB rfl rfl rfl rfl (fun h27 => ?_) (fun h27 => ?_)
  · skip
    refine seqU rfl rfl ?_
    refine seqU rfl rfl ?_
    refine seqU rfl rfl ?_
    refine seqQ rfl rfl (yPickT (v := .bool _) rfl rfl rfl) ?_
    refine seqNil ?_
    refine hF5 _ _ ?_; clear hF5
    refine wpT rfl ?_
    refine wpSeq fun F7 hF7 => ?_
    refine wpRegion ?_
    refine seqQ rfl rfl (yAssign (v := .bool _) rfl rfl) ?_
    refine seqNil ?_
    refine hF7 _ _ ?_; clear hF7
    refine wpRet (fin1 (v := .bool _) rfl rfl ?_)
    exact ⟨rfl, xv⟩
  refine seqQ rfl rfl (yMove (v := .int _ _) rfl rfl) ?_
  refine seqQ rfl rfl (yMove (v := .int _ _) rfl rfl) ?_
  refine seqQ rfl rfl (yGtr rfl rfl rfl) ?_
  refine seqQ rfl rfl (yPickF (v := .bool _) rfl rfl rfl) ?_
  refine seqNil ?_
  refine hF5 _ _ ?_; clear hF5
  -- if t31
  refine wpIf rfl (fun hab => ?_) (fun hab => ?_)
  · skip
    refine wpSeq fun F8 hF8 => ?_
    refine wpRegion ?_
    refine seqQ rfl rfl (yAssign (v := .bool _) rfl rfl) ?_
    refine seqNil ?_
    refine hF8 _ _ ?_; clear hF8
    -- ret
    refine wpRet (fin1 (v := .bool _) rfl rfl ?_)
    exact ⟨rfl, xv⟩
  · skip
    have hab : a ≤ b := by omega
    have hv : ValidT l := by simpa using h27
    obtain ⟨w1, w2⟩ := exp_two hv hab
    obtain ⟨la1, la2⟩ := len_expT l a hl
    obtain ⟨lb1, lb2⟩ := len_expT l b hl
    obtain ⟨lc1, lc2⟩ := len_expT (expT l a).1 b la1
    refine wpSkip ?_
    refine hF4 _ _ ?_; clear hF4
    refine wpSeq fun F9 hF9 => ?_
    refine wpRegion ?_
    refine seqQ rfl rfl (yMove (v := .slice _ _ _) rfl rfl) ?_
    -- e slot 34: call F11<farandole/farandolelaw49.to> t33
    refine seqE rfl rfl (stepCall rfl Try.call11 rfl ?_)
    refine (toT_c A ca l Hv (hA.ext xv) (by omega)).mono ?_
    rintro v H1 ⟨o1, x1⟩
    obtain ⟨V1, c1, rfl, hc1, -⟩ := o1.form
    replace x1 := xv.trans x1
    clear xv
    refine seqQ rfl rfl (yMove (v := .int _ _) rfl rfl) ?_
    -- e slot 36: call F10<farandole/timer.Expire> t34 t35
    refine seqE rfl rfl (stepCall rfl Try.call10 rfl ?_)
    refine (expire_c V1 c1 l a H1 (Own.rd o1).2 (by omega) hc1).mono ?_
    rintro v H2 ⟨V2, c2, W2, d2, rfl, o2, q2, x2⟩
    have hc2 : (expT l a).1.length ≤ c2 := by
      obtain ⟨_, _, e, hle, -⟩ := o2.form
      injection e with _ _ e
      rw [e]
      exact hle
    have r2 := (Own.rd o2).2
    have s2 := (Own.rd q2).2
    replace x2 := x1.trans x2
    clear x1 o1 o2 q2
    refine seqQ rfl rfl (yMove (v := .tuple _) rfl rfl) ?_
    refine seqQ rfl rfl (yExtract (v := .slice _ _ _) rfl rfl rfl) ?_
    refine seqQ rfl rfl (yExtract (v := .slice _ _ _) rfl rfl rfl) ?_
    refine seqQ rfl rfl (yAssign (v := .slice _ _ _) rfl rfl) ?_
    refine seqQ rfl rfl (yAssign (v := .slice _ _ _) rfl rfl) ?_
    refine seqNil ?_
    refine hF9 _ _ ?_; clear hF9
    refine wpSeq fun F10 hF10 => ?_
    refine wpRegion ?_
    refine seqQ rfl rfl (yMove (v := .slice _ _ _) rfl rfl) ?_
    refine seqQ rfl rfl (yMove (v := .int _ _) rfl rfl) ?_
    -- e slot 42: call F10<farandole/timer.Expire> t40 t41
    refine seqE rfl rfl (stepCall rfl Try.call10 rfl ?_)
    refine (expire_c V2 c2 (expT l a).1 b H2 r2 (by omega) hc2).mono ?_
    rintro v H3 ⟨V3, c3, W3, d3, rfl, o3, q3, x3⟩
    have r3 := (Own.rd o3).2
    have s3 := (Own.rd q3).2
    replace s2 := s2.ext x3
    replace x3 := x2.trans x3
    clear x2 o3 q3
    refine seqQ rfl rfl (yMove (v := .tuple _) rfl rfl) ?_
    refine seqQ rfl rfl (yExtract (v := .slice _ _ _) rfl rfl rfl) ?_
    refine seqQ rfl rfl (yExtract (v := .slice _ _ _) rfl rfl rfl) ?_
    refine seqQ rfl rfl (yAssign (v := .slice _ _ _) rfl rfl) ?_
    refine seqQ rfl rfl (yAssign (v := .slice _ _ _) rfl rfl) ?_
    refine seqNil ?_
    refine hF10 _ _ ?_; clear hF10
    refine wpSeq fun F11 hF11 => ?_
    refine wpRegion ?_
    refine seqQ rfl rfl (yMove (v := .slice _ _ _) rfl rfl) ?_
    -- e slot 47: call F11<farandole/farandolelaw49.to> t46
    refine seqE rfl rfl (stepCall rfl Try.call11 rfl ?_)
    refine (toT_c A ca l H3 (hA.ext x3) (by omega)).mono ?_
    rintro v H4 ⟨o4, x4⟩
    obtain ⟨V4, c4, rfl, hc4, -⟩ := o4.form
    replace s2 := s2.ext x4
    replace r3 := r3.ext x4
    replace s3 := s3.ext x4
    replace x4 := x3.trans x4
    clear x3
    refine seqQ rfl rfl (yMove (v := .int _ _) rfl rfl) ?_
    -- e slot 49: call F10<farandole/timer.Expire> t47 t48
    refine seqE rfl rfl (stepCall rfl Try.call10 rfl ?_)
    refine (expire_c V4 c4 l b H4 (Own.rd o4).2 (by omega) hc4).mono ?_
    rintro v H5 ⟨V5, c5, W5, d5, rfl, o5, q5, x5⟩
    have r5 := (Own.rd o5).2
    have s5 := (Own.rd q5).2
    replace s2 := s2.ext x5
    replace r3 := r3.ext x5
    replace s3 := s3.ext x5
    replace x5 := x4.trans x5
    clear x4 o4 o5 q5
    refine seqQ rfl rfl (yMove (v := .tuple _) rfl rfl) ?_
    refine seqQ rfl rfl (yExtract (v := .slice _ _ _) rfl rfl rfl) ?_
    refine seqQ rfl rfl (yExtract (v := .slice _ _ _) rfl rfl rfl) ?_
    refine seqQ rfl rfl (yAssign (v := .slice _ _ _) rfl rfl) ?_
    refine seqQ rfl rfl (yAssign (v := .slice _ _ _) rfl rfl) ?_
    refine seqNil ?_
    refine hF11 _ _ ?_; clear hF11
    refine wpSeq fun F12 hF12 => ?_
    refine wpSeq fun F13 hF13 => ?_
    refine wpRegion ?_
    refine seqQ rfl rfl (yMove (v := .slice _ _ _) rfl rfl) ?_
    -- e slot 53: call F13<farandole/farandolelaw49.from> t52
    refine seqE rfl rfl (stepCall rfl Try.call13 rfl ?_)
    refine (fromT_c V3 c3 _ H5 r3 (by omega)).mono ?_
    rintro v H6 ⟨o6, x6⟩
    obtain ⟨V6, c6, rfl, -⟩ := o6.form
    have r6 := (Own.rd o6).2
    replace s2 := s2.ext x6
    replace s3 := s3.ext x6
    replace r5 := r5.ext x6
    replace s5 := s5.ext x6
    replace x6 := x5.trans x6
    clear x5 o6 r3
    refine seqQ rfl rfl (yMove (v := .slice _ _ _) rfl rfl) ?_
    -- e slot 55: call F13<farandole/farandolelaw49.from> t54
    refine seqE rfl rfl (stepCall rfl Try.call13 rfl ?_)
    refine (fromT_c V5 c5 _ H6 r5 (by omega)).mono ?_
    rintro v H7 ⟨o7, x7⟩
    obtain ⟨V7, c7, rfl, -⟩ := o7.form
    replace s2 := s2.ext x7
    replace s3 := s3.ext x7
    replace r6 := r6.ext x7
    replace s5 := s5.ext x7
    replace x7 := x6.trans x7
    clear x6
    -- e slot 56: call F12<farandole/farandoleref49.Equal> t53 t55
    refine seqE rfl rfl (stepCall rfl Try.call12 rfl ?_)
    refine (rEqualT_c V6 V7 c6 c7 _ _ H7 r6 (Own.rd o7).2 (by omega)).mono ?_
    rintro v _ ⟨rfl, e⟩; obtain rfl := e.symm; clear e
    rw [decide_eq_true (show (expT (expT l a).1 b).1 = (expT l b).1 by rw [w1])]
    clear r6 r5 o7
    refine seqQ rfl rfl (yNot rfl rfl) ?_
    refine seqQ rfl rfl (yMove (v := .bool false) rfl rfl) ?_
    refine seqN rfl rfl (nBuildSlice (vs := []) rfl Try.underlying27 Try.sizeOf3 Try.zeroValue3 rfl rfl rfl rfl) (fun g59 H59 hx59 hB59 hg59 hl59 => ?_)
    refine seqQ rfl rfl (yMove (v := .slice _ _ _) rfl rfl) ?_
    -- e slot 61: builtin append t59 t60 : [27, 27]
    refine seqE rfl rfl (stepApp (c := eInt) (Own.lit (c := eInt) (l := []) (base := H7.size) hB59 hg59 (by simp)) rfl Try.underlying27 elem_eInt rfl (by omega) rfl rfl rfl (s2.ext hx59) (by simp; omega) hx59.size ?_)
    intro v H8 o8 gr8
    rw [List.nil_append] at o8
    have x8 : Ext H7 H8 := gr8.ext hx59 (by rintro g e; obtain rfl := Option.some.inj e; exact hg59)
    obtain ⟨V8, c8, rfl, -⟩ := o8.form
    refine seqQ rfl rfl (yMove (v := .slice _ _ _) rfl rfl) ?_
    -- e slot 63: builtin append t61 t62 : [27, 27]
    refine seqE rfl rfl (stepApp (c := eInt) o8 rfl Try.underlying27 elem_eInt rfl (by omega) rfl rfl rfl (s3.ext x8) (by omega) x8.size ?_)
    intro v H9 o9 gr9
    rw [w2] at o9
    have x9 : Ext H7 H9 := gr9.ext x8 (fun g e => (o8.lt g e).1)
    have k9 : Rd eInt H9 W5 (expT l b).2 := s5.ext x9
    have hE := x7.trans x9
    obtain ⟨V9, c9, rfl, -⟩ := o9.form
    refine seqQ rfl rfl (yMove (v := .slice _ _ _) rfl rfl) ?_
    -- e slot 65: call F14<farandole/farandoleref01.SameInts> t63 t64
    refine seqE rfl rfl (stepCall rfl Try.call14 rfl ?_)
    refine (sameI_c V9 W5 c9 d5 _ _ H9 (Own.rd o9).2 k9 (by omega)).mono ?_
    rintro v _ ⟨rfl, e⟩; obtain rfl := e.symm; clear e
    rw [decide_eq_true rfl]
    clear o9 gr9 o8 gr8 x8 s2 s3 s5 hx59 hB59 x7 x9
    refine seqQ rfl rfl (yNot rfl rfl) ?_
    refine seqQ rfl rfl (yPickF (v := .bool _) rfl rfl rfl) ?_
    refine seqNil ?_
    refine hF13 _ _ ?_; clear hF13
    -- if t67
    refine wpF rfl ?_
    refine wpSkip ?_
    refine hF12 _ _ ?_; clear hF12
    refine wpSeq fun F14 hF14 => ?_
    refine wpRegion ?_
    refine seqQ rfl rfl (yAssign (v := .int _ _) rfl rfl) ?_
    refine seqNil ?_
    refine hF14 _ _ ?_; clear hF14
    refine wpSeq fun F15 hF15 => ?_
    refine wpSeq fun F16 hF16 => ?_
    refine wpRegion ?_
    refine seqQ rfl rfl (yAssign (v := .int _ _) rfl rfl) ?_
    refine seqNil ?_
    refine hF16 _ _ ?_; clear hF16
    -- loop
    refine wpBlock ?_
    refine wpLoopS [6, 13, 14, 15, 16, 68, 69, 70, 71, 72, 73, 74, 75, 76, 77, 78, 79, 80, 81, 82, 83, 84, 85, 86, 87, 88, 89, 90] (fun x : Nat × Int => [(14, .int .i64 x.1), (13, .int .i64 x.2)]) (fun x H' => x.1 ≤ (expT l b).2.length ∧ H' = H9 ∧ x.2 = if x.1 = 0 then -1 else (gT l (x.1 - 1)).1) (fun x => (expT l b).2.length - x.1) (0, -1) ⟨rfl, rfl, trivial⟩ ⟨Nat.zero_le _, rfl, rfl⟩ ?_
    rintro ⟨k, last⟩ J H10 ⟨hk, rfl, hlast⟩
    dsimp only at hk hlast
    refine wpSeq fun F17 hF17 => ?_
    refine wpSeq fun F18 hF18 => ?_
    refine wpRegion ?_
    refine seqQ rfl rfl (yMove (v := .int _ _) rfl rfl) ?_
    refine seqQ rfl rfl (yMove (v := .slice _ _ _) rfl rfl) ?_
    refine seqQ rfl rfl (yLen rfl Try.underlying27 rfl) ?_
    refine seqQ rfl rfl (yLss rfl rfl rfl) ?_
    refine seqNil ?_
    refine hF18 _ _ ?_; clear hF18
    -- if t71
    refine wpIf rfl (fun hlt => ?_) (fun hlt => ?_)
    · skip
      have hk : k < (expT l b).2.length := by dsimp only at hlt; omega
      obtain ⟨hkl, ek⟩ := exp_at hv hk
      obtain ⟨p, ep, hp⟩ := k9.at1 hk
      rw [ek] at hp
      refine wpSkip ?_
      refine hF17 _ _ ?_; clear hF17
      refine wpSeq fun F19 hF19 => ?_
      refine wpBlock ?_
      refine wpSeq fun F20 hF20 => ?_
      refine wpRegion ?_
      refine seqQ rfl rfl (yMove (v := .slice _ _ _) rfl rfl) ?_
      refine seqQ rfl rfl (yMove (v := .slice _ _ _) rfl rfl) ?_
      refine seqQ rfl rfl (yMove (v := .int _ _) rfl rfl) ?_
      refine seqQ rfl rfl (yIdxP1 rfl Try.underlying27 Try.sizeOf3 rfl rfl ep rfl hk) ?_
      refine seqQ rfl rfl (yLoad rfl Try.underlying3 rfl rfl hp) ?_
      -- e slot 80: call F15<farandole/farandoleref49.Find> t75 t79
      refine seqE rfl rfl (stepCall rfl Try.call15 rfl ?_)
      have hc := rFind_c A ca l l[k].2 H10 (hA.ext hE) (by omega)
      rw [findT_mem hv (List.getElem_mem hkl)] at hc
      refine hc.mono ?_
      rintro v _ ⟨rfl, e⟩; obtain rfl := e.symm; clear e
      have hle : last ≤ l[k].1 := by
        rw [hlast]
        by_cases e0 : k = 0
        · have := hv.ok _ (List.getElem_mem hkl)
          unfold okT at this
          rw [if_pos e0]
          omega
        · rw [if_neg e0, gT_at (show k - 1 < l.length by omega)]
          exact srt_time hv (k - 1) k (by omega) hkl (by omega)
      refine seqQ rfl rfl (yMove (v := .tuple _) rfl rfl) ?_
      refine seqQ rfl rfl (yExtract (v := .int _ _) rfl rfl rfl) ?_
      refine seqQ rfl rfl (yExtract (v := .bool _) rfl rfl rfl) ?_
      refine seqQ rfl rfl (yAssign (v := .int _ _) rfl rfl) ?_
      refine seqQ rfl rfl (yAssign (v := .bool _) rfl rfl) ?_
      refine seqNil ?_
      refine hF20 _ _ ?_; clear hF20
      refine wpSeq fun F21 hF21 => ?_
      refine wpSeq fun F22 hF22 => ?_
      refine wpRegion ?_
      refine seqQ rfl rfl (yMove (v := .bool _) rfl rfl) ?_
      refine seqQ rfl rfl (yNot rfl rfl) ?_
      refine seqQ rfl rfl (yMove (v := .bool false) rfl rfl) ?_
      refine seqQ rfl rfl (yMove (v := .int _ _) rfl rfl) ?_
      refine seqQ rfl rfl (yMove (v := .int _ _) rfl rfl) ?_
      refine seqQ rfl rfl (yLss rfl rfl rfl) ?_
      refine seqQ rfl rfl (yPickF (v := .bool _) rfl rfl rfl) ?_
      refine seqNil ?_
      refine hF22 _ _ ?_; clear hF22
      -- if t89
      refine wpIf rfl (fun hbad => ?_) (fun hbad => ?_)
      · skip
        have hbad : l[k].1 < last := hbad
        omega
      · skip
        refine wpSkip ?_
        refine hF21 _ _ ?_; clear hF21
        refine wpRegion ?_
        refine seqQ rfl rfl (yMove (v := .int _ _) rfl rfl) ?_
        refine seqQ rfl rfl (yAssign (v := .int _ _) rfl rfl) ?_
        refine seqNil ?_
        refine hF19 _ _ ?_; clear hF19
        refine wpRegion ?_
        refine seqQ rfl rfl (yMove (v := .int _ _) rfl rfl) ?_
        refine seqQ rfl rfl (yAdd rfl rfl rfl (by unfold In64; omega)) ?_
        refine seqQ rfl rfl (yAssign (v := .int _ _) rfl rfl) ?_
        refine seqNil ?_
        -- end loop
        refine loopEnd (k + 1, l[k].1) (by repeat (first | (with_reducible exact Agree.refl _ _) | refine Agree.upd ?_ rfl | refine Agree.over ?_ rfl)) (by dsimp only; omega) ⟨rfl, rfl, trivial⟩ ⟨hk, rfl, ?_⟩
        dsimp only
        rw [if_neg (by omega), Nat.add_sub_cancel, gT_at hkl]
    · skip
      refine wpExit ?_
      refine hF15 _ _ ?_; clear hF15
      refine wpSeq fun F23 hF23 => ?_
      refine wpRegion ?_
      refine seqQ rfl rfl (yAssign (v := .bool _) rfl rfl) ?_
      refine seqNil ?_
      refine hF23 _ _ ?_; clear hF23
      -- ret
      refine wpRet (fin1 (v := .bool _) rfl rfl ?_)
      exact ⟨rfl, hE⟩
set_option maxRecDepth 100000 in
set_option maxRecDepth 100000 in
theorem timerOrder_lifted (os : Os) (started : os.Started) (H : Type) (enc : TypeId × Value → H) :
    ReturnsInHanded {} Try.checked os 3 .any (Rows.timerOrderSpec.pre6 enc Try.prog Try.f3 Rows.timerOrderRow.domain false) (Rows.timerOrderSpec.post enc Try.prog Try.f3 false true false false) := by
  refine law_lifted started Rows.timerOrderSpec rfl (by kernel_rfl) Try.func3 rfl
    (fun ds h => by match ds, h with | [_, _, _], _ => rfl) (of_decide_eq_true (by kernel_rfl))
    (ChangeSpec.witness6 (enc := enc) (C := Try.checked) false ⟨#[], #[.slice none 0 0, .int .i64 0, .int .i64 0], []⟩ 8 (by kernel_rfl) (by kernel_rfl) (by kernel_rfl) (by kernel_rfl)) ?_
  intro W base args ds p hval hA
  rw [Try.params3] at hA hval
  obtain ⟨v0, v1, v2, d0, d1, d2, p0, p1, p2, rfl, rfl, rfl, h0, h1, h2⟩ := trodAll_three hA
  have g0 := hval 0 _ v0 rfl rfl
  have g1 := hval 1 _ v1 rfl rfl
  have g2 := hval 2 _ v2 rfl rfl
  obtain ⟨⟨A, ca, l⟩, rfl, kA, -, k2, k3⟩ := (opn_tms W).one (one_slice Try.underlying22 g0) h0
  obtain ⟨a, rfl, -⟩ := (opn_int (W := W) Try.underlying3 (by kernel_rfl)).one (one_int Try.underlying3 g1) h1
  obtain ⟨b, rfl, -⟩ := (opn_int (W := W) Try.underlying3 (by kernel_rfl)).one (one_int Try.underlying3 g2) h2
  exact tord_walk A ca l a b W.heap kA (by have := Nat.le_trans k2 k3; unfold maxLen at this; exact this)
set_option maxRecDepth 100000 in
theorem timerOrder_holds : Rows.TimerOrderSaid :=
  OpenClaim.holds_of_wide 3 Try.f3 rfl rfl rfl rfl rfl rfl rfl ⟨rfl, rfl, rfl, rfl, rfl⟩ rfl rfl rfl rfl rfl (by kernel_rfl) Try.func3 (by kernel_rfl)
    (of_decide_eq_true (by kernel_rfl)) (by unfold Func.isWrapper; first | (rw [if_pos (by decide +kernel)]; kernel_rfl) | (rw [if_neg (by decide +kernel)]; exact ⟨rfl, rfl⟩))
    (fun os started H enc _ => timerOrder_lifted os started H enc)
end Go.Proofs.Ytbicgjleomkhdaa
