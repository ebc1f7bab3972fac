/- TimerExpire: Expire and Next return the specified results for any table. Conditions: none beyond the statement's. -/
import Derived.Test.YtbicgjleomkhdaaT9
namespace Go.Proofs.Ytbicgjleomkhdaa
open Go.ChangeShapes Go.WideShapes Go.ChangeAt Go.RowKit Go.Deep

set_option maxRecDepth 100000 in
theorem len_expT (t : List Tm) (now : Int) (h : t.length ≤ 320) : (expT t now).1.length ≤ 320 ∧ (expT t now).2.length ≤ 320 := by
  by_cases hv : ValidT t
  · rw [expT_ok hv]
    dsimp only
    rw [List.length_map]
    exact ⟨Nat.le_trans (List.dropWhile_sublist _).length_le h, Nat.le_trans (List.takeWhile_sublist _).length_le h⟩
  · rw [expT_bad hv]
    simp
set_option maxRecDepth 100000 in
theorem exp_before {t : List Tm} (h : ValidT t) : (expT t ((gT t 0).1 - 1)).2 = [] := by
  rw [expT_ok h]
  cases t with
  | nil => rfl
  | cons a t =>
    have : gT (a :: t) 0 = a := rfl
    rw [this]
    dsimp only
    rw [List.takeWhile_cons_of_neg (by simp; omega)]
    rfl
set_option maxRecDepth 100000 in
theorem exp_some {t : List Tm} (h : ValidT t) (h0 : 0 < t.length) : 0 < (expT t (gT t 0).1).2.length := by
  rw [expT_ok h]
  cases t with
  | nil => exact absurd h0 (by simp)
  | cons a t =>
    have : gT (a :: t) 0 = a := rfl
    rw [this]
    dsimp only
    rw [List.takeWhile_cons_of_pos (by simp)]
    simp
set_option maxRecDepth 100000 in
theorem texp_walk (A : Option Addr) (ca : Nat) (l : List Tm) (now : Int) (H : Heap) (hA : Rd eTm H A l) (hl : l.length ≤ 9223372036854775807) :
    CallsH Try.prog 4 [.slice A l.length ca, .int .i64 now] H fun v H' => v = .bool true ∧ Ext H H' := by
  refine callsH_of Try.func4 rfl Try.ntmps4 (Nat.le_of_ble_eq_true rfl) ?_
  refine wpSeq fun F1 hF1 => ?_
  refine wpRegion ?_
  refine seqQ rfl rfl (yAssign (v := .bool _) rfl rfl) ?_
  refine seqNil ?_
  refine hF1 _ _ ?_; clear hF1
  refine wpSeq fun F2 hF2 => ?_
  refine wpSeq fun F3 hF3 => ?_
  refine wpRegion ?_
  -- e slot 15: call F8<farandole/farandolelaw49.awake> 
  refine seqE rfl rfl (stepCall rfl Try.call8 rfl ?_)
  refine (tmAwake_c _).mono ?_
  rintro v Ha ⟨rfl, xa⟩
  refine seqQ rfl rfl (yNot rfl rfl) ?_
  refine seqNil ?_
  refine hF3 _ _ ?_; clear hF3
  -- if t16
  refine wpF rfl ?_
  refine wpSkip ?_
  refine hF2 _ _ ?_; clear hF2
  refine wpSeq fun F4 hF4 => ?_
  refine wpSeq fun F5 hF5 => ?_
  refine wpRegion ?_
  refine seqQ rfl rfl (yMove (v := .slice _ _ _) rfl rfl) ?_
  refine seqQ rfl rfl (yLen rfl Try.underlying22 rfl) ?_
  refine seqQ rfl rfl (yGtr rfl rfl rfl) ?_
  refine seqNil ?_
  refine hF5 _ _ ?_; clear hF5
  -- if t19
  refine wpIf rfl (fun h320 => ?_) (fun h320 => ?_)
  · skip
    refine wpSeq fun F6 hF6 => ?_
    refine wpRegion ?_
    refine seqQ rfl rfl (yAssign (v := .bool _) rfl rfl) ?_
    refine seqNil ?_
    refine hF6 _ _ ?_; clear hF6
    -- ret
    refine wpRet (fin1 (v := .bool _) rfl rfl ?_)
    exact ⟨rfl, xa⟩
  · skip
    have hl : l.length ≤ 320 := by omega
    obtain ⟨le1, le2⟩ := len_expT l now hl
    refine wpSkip ?_
    refine hF4 _ _ ?_; clear hF4
    refine wpSeq fun F7 hF7 => ?_
    refine wpRegion ?_
    refine seqQ rfl rfl (yMove (v := .slice _ _ _) rfl rfl) ?_
    -- e slot 22: call F11<farandole/farandolelaw49.to> t21
    refine seqE rfl rfl (stepCall rfl Try.call11 rfl ?_)
    refine (toT_c A ca l Ha (hA.ext xa) (by omega)).mono ?_
    rintro v H1 ⟨o1, x1⟩
    obtain ⟨V1, c1, rfl, hc1, -⟩ := o1.form
    replace x1 := xa.trans x1
    clear xa
    refine seqQ rfl rfl (yMove (v := .int _ _) rfl rfl) ?_
    -- e slot 24: call F10<farandole/timer.Expire> t22 t23
    refine seqE rfl rfl (stepCall rfl Try.call10 rfl ?_)
    refine (expire_c V1 c1 l now H1 (Own.rd o1).2 (by omega) hc1).mono ?_
    rintro v H2 ⟨V2, c2, W2, d2, rfl, o2, q2, x2⟩
    have r2 := (Own.rd o2).2
    have s2 := (Own.rd q2).2
    replace x2 := x1.trans x2
    clear x1 o1 o2 q2
    refine seqQ rfl rfl (yMove (v := .tuple _) rfl rfl) ?_
    refine seqQ rfl rfl (yExtract (v := .slice _ _ _) rfl rfl rfl) ?_
    refine seqQ rfl rfl (yExtract (v := .slice _ _ _) rfl rfl rfl) ?_
    refine seqQ rfl rfl (yAssign (v := .slice _ _ _) rfl rfl) ?_
    refine seqQ rfl rfl (yAssign (v := .slice _ _ _) rfl rfl) ?_
    refine seqNil ?_
    refine hF7 _ _ ?_; clear hF7
    refine wpSeq fun F8 hF8 => ?_
    refine wpRegion ?_
    refine seqQ rfl rfl (yMove (v := .slice _ _ _) rfl rfl) ?_
    refine seqQ rfl rfl (yMove (v := .int _ _) rfl rfl) ?_
    -- e slot 30: call F16<farandole/farandoleref49.Expire> t28 t29
    refine seqE rfl rfl (stepCall rfl Try.call16 rfl ?_)
    refine (rExpire_c A ca l now H2 (hA.ext x2) (by omega)).mono ?_
    rintro v H3 ⟨V3, c3, W3, d3, rfl, r3, s3, x3⟩
    replace r2 := r2.ext x3
    replace s2 := s2.ext x3
    replace x3 := x2.trans x3
    clear x2
    refine seqQ rfl rfl (yMove (v := .tuple _) rfl rfl) ?_
    refine seqQ rfl rfl (yExtract (v := .slice _ _ _) rfl rfl rfl) ?_
    refine seqQ rfl rfl (yExtract (v := .slice _ _ _) rfl rfl rfl) ?_
    refine seqQ rfl rfl (yAssign (v := .slice _ _ _) rfl rfl) ?_
    refine seqQ rfl rfl (yAssign (v := .slice _ _ _) rfl rfl) ?_
    refine seqNil ?_
    refine hF8 _ _ ?_; clear hF8
    refine wpSeq fun F9 hF9 => ?_
    refine wpRegion ?_
    refine seqQ rfl rfl (yMove (v := .slice _ _ _) rfl rfl) ?_
    -- e slot 35: call F11<farandole/farandolelaw49.to> t34
    refine seqE rfl rfl (stepCall rfl Try.call11 rfl ?_)
    refine (toT_c A ca l H3 (hA.ext x3) (by omega)).mono ?_
    rintro v H4 ⟨o4, x4⟩
    obtain ⟨V4, c4, rfl, -⟩ := o4.form
    replace r2 := r2.ext x4
    replace s2 := s2.ext x4
    replace r3 := r3.ext x4
    replace s3 := s3.ext x4
    replace x4 := x3.trans x4
    clear x3
    -- e slot 36: call F17<farandole/timer.Next> t35
    refine seqE rfl rfl (stepCall rfl Try.call17 rfl ?_)
    refine (next_c V4 c4 l H4 (Own.rd o4).2).mono ?_
    rintro v _ ⟨rfl, e⟩; obtain rfl := e.symm; clear e
    refine seqQ rfl rfl (yMove (v := .tuple _) rfl rfl) ?_
    refine seqQ rfl rfl (yExtract (v := .int _ _) rfl rfl rfl) ?_
    refine seqQ rfl rfl (yExtract (v := .bool _) rfl rfl rfl) ?_
    refine seqQ rfl rfl (yAssign (v := .int _ _) rfl rfl) ?_
    refine seqQ rfl rfl (yAssign (v := .bool _) rfl rfl) ?_
    refine seqNil ?_
    refine hF9 _ _ ?_; clear hF9
    refine wpSeq fun F10 hF10 => ?_
    refine wpSeq fun F11 hF11 => ?_
    refine wpRegion ?_
    refine seqQ rfl rfl (yMove (v := .slice _ _ _) rfl rfl) ?_
    -- e slot 40: call F13<farandole/farandolelaw49.from> t39
    refine seqE rfl rfl (stepCall rfl Try.call13 rfl ?_)
    refine (fromT_c V2 c2 _ H4 r2 (by omega)).mono ?_
    rintro v H5 ⟨o5, x5⟩
    obtain ⟨V5, c5, rfl, -⟩ := o5.form
    replace r2 := r2.ext x5
    replace s2 := s2.ext x5
    replace r3 := r3.ext x5
    replace s3 := s3.ext x5
    replace x5 := x4.trans x5
    clear x4 o4
    refine seqQ rfl rfl (yMove (v := .slice _ _ _) rfl rfl) ?_
    -- e slot 42: call F12<farandole/farandoleref49.Equal> t40 t41
    refine seqE rfl rfl (stepCall rfl Try.call12 rfl ?_)
    refine (rEqualT_c V5 V3 c5 c3 _ _ H5 (Own.rd o5).2 r3 (by omega)).mono ?_
    rintro v _ ⟨rfl, e⟩; obtain rfl := e.symm; clear e
    rw [decide_eq_true (rfl : (expT l now).1 = (expT l now).1)]
    refine seqQ rfl rfl (yNot rfl rfl) ?_
    refine seqQ rfl rfl (yMove (v := .bool false) rfl rfl) ?_
    refine seqQ rfl rfl (yMove (v := .slice _ _ _) rfl rfl) ?_
    refine seqQ rfl rfl (yMove (v := .slice _ _ _) rfl rfl) ?_
    -- e slot 47: call F14<farandole/farandoleref01.SameInts> t45 t46
    refine seqE rfl rfl (stepCall rfl Try.call14 rfl ?_)
    refine (sameI_c W2 W3 d2 d3 _ _ H5 s2 s3 (by omega)).mono ?_
    rintro v _ ⟨rfl, e⟩; obtain rfl := e.symm; clear e
    rw [decide_eq_true (rfl : (expT l now).2 = (expT l now).2)]
    refine seqQ rfl rfl (yNot rfl rfl) ?_
    refine seqQ rfl rfl (yPickF (v := .bool _) rfl rfl rfl) ?_
    refine seqQ rfl rfl (yMove (v := .bool false) rfl rfl) ?_
    refine seqQ rfl rfl (yMove (v := .slice _ _ _) rfl rfl) ?_
    -- e slot 52: call F18<farandole/timer.Valid> t51
    refine seqE rfl rfl (stepCall rfl Try.call18 rfl ?_)
    refine (tValid_c V2 c2 _ H5 r2 (by omega)).mono ?_
    rintro v H6 ⟨rfl, x6⟩
    rw [decide_eq_true (valid_expT l now)]
    replace x6 := x5.trans x6
    clear x5 o5 r2 s2 r3 s3
    refine seqQ rfl rfl (yNot rfl rfl) ?_
    refine seqQ rfl rfl (yPickF (v := .bool _) rfl rfl rfl) ?_
    refine seqQ rfl rfl (yMove (v := .bool false) rfl rfl) ?_
    refine seqQ rfl rfl (yMove (v := .bool _) rfl rfl) ?_
    refine seqQ rfl rfl (yMove (v := .slice _ _ _) rfl rfl) ?_
    refine seqQ rfl rfl (yLen rfl Try.underlying22 rfl) ?_
    refine seqQ rfl rfl (yGtr rfl rfl rfl) ?_
    refine seqQ rfl rfl (yNeqB rfl Try.underlying4 rfl rfl) ?_
    refine seqQ rfl rfl (yPickF (v := .bool _) rfl rfl rfl) ?_
    -- guard t62
    have e0 : decide ((0 : Int) < (l.length : Int)) = decide (0 < l.length) := by rw [decide_eq_decide]; omega
    rw [e0, beq_self_eq_true]
    refine seqQ rfl rfl (yMove (v := .bool false) rfl rfl) ?_
    refine seqQ rfl rfl (yMove (v := .bool _) rfl rfl) ?_
    -- guard t64
    by_cases h0 : 0 < l.length
    · skip
      rw [decide_eq_true h0]
      obtain ⟨p, ep, hp⟩ := (hA.ext x6).at h0
      have eg : gT l 0 = l[0] := gT_at h0
      refine seqQ rfl rfl (yMove (v := .bool true) rfl rfl) ?_
      refine seqQ rfl rfl (yMove (v := .int _ _) rfl rfl) ?_
      refine seqQ rfl rfl (yMove (v := .slice _ _ _) rfl rfl) ?_
      refine seqQ rfl rfl (yIdxP rfl Try.underlying22 Try.sizeOf42 rfl rfl ep rfl h0) ?_
      refine seqQ rfl rfl (yFieldAddr rfl Try.underlying42 rfl Try.sizeOf3 rfl rfl) ?_
      refine seqQ rfl rfl (yLoad rfl Try.underlying3 rfl rfl (hp 0 _ rfl)) ?_
      refine seqQ rfl rfl (yNeq rfl rfl rfl) ?_
      refine seqQ rfl rfl (yPickT (v := .bool _) rfl rfl rfl) ?_
      refine seqQ rfl rfl (yPickF (v := .bool _) rfl rfl rfl) ?_
      -- guard t73
      rw [eg, decide_eq_true (rfl : l[0].1 = l[0].1)]
      refine seqQ rfl rfl (yMove (v := .bool false) rfl rfl) ?_
      refine seqQ rfl rfl (yMove (v := .bool _) rfl rfl) ?_
      refine seqQ rfl rfl (yNot rfl rfl) ?_
      refine seqQ rfl rfl (yMove (v := .bool false) rfl rfl) ?_
      refine seqU rfl rfl ?_
      refine seqU rfl rfl ?_
      refine seqQ rfl rfl (yPickF (v := .bool _) rfl rfl rfl) ?_
      refine seqQ rfl rfl (yPickF (v := .bool _) rfl rfl rfl) ?_
      refine seqNil ?_
      refine hF11 _ _ ?_; clear hF11
      -- if t80
      refine wpF rfl ?_
      refine wpSkip ?_
      refine hF10 _ _ ?_; clear hF10
      refine wpSeq fun F12 hF12 => ?_
      refine wpSeq fun F13 hF13 => ?_
      refine wpRegion ?_
      refine seqQ rfl rfl (yMove (v := .slice _ _ _) rfl rfl) ?_
      -- e slot 82: call F9<farandole/farandoleref49.Valid> t81
      refine seqE rfl rfl (stepCall rfl Try.call9 rfl ?_)
      refine (rValidT_c A ca l H6 (hA.ext x6) (by omega)).mono ?_
      rintro v H7 ⟨rfl, x7⟩
      replace x7 := x6.trans x7
      clear x6
      refine seqQ rfl rfl (yNot rfl rfl) ?_
      -- guard t84
      refine seqGB rfl rfl rfl rfl (fun hv => ?_) (fun hv => ?_)
      · skip
        refine seqU rfl rfl ?_
        refine seqU rfl rfl ?_
        refine seqQ rfl rfl (yPickT (v := .bool _) rfl rfl rfl) ?_
        refine seqNil ?_
        refine hF13 _ _ ?_; clear hF13
        -- if t87
        refine wpT rfl ?_
        refine wpSeq fun F14 hF14 => ?_
        refine wpRegion ?_
        refine seqQ rfl rfl (yAssign (v := .bool _) rfl rfl) ?_
        refine seqNil ?_
        refine hF14 _ _ ?_; clear hF14
        -- ret
        refine wpRet (fin1 (v := .bool _) rfl rfl ?_)
        exact ⟨rfl, x7⟩
      · skip
        have hv : ValidT l := by simpa using hv
        have hat := hv.ok _ (List.getElem_mem h0)
        unfold okT at hat
        refine seqQ rfl rfl (yMove (v := .bool _) rfl rfl) ?_
        refine seqQ rfl rfl (yNot rfl rfl) ?_
        refine seqQ rfl rfl (yPickF (v := .bool _) rfl rfl rfl) ?_
        refine seqNil ?_
        refine hF13 _ _ ?_; clear hF13
        -- if t87
        refine wpF rfl ?_
        refine wpSkip ?_
        refine hF12 _ _ ?_; clear hF12
        refine wpSeq fun F15 hF15 => ?_
        refine wpRegion ?_
        refine seqQ rfl rfl (yMove (v := .slice _ _ _) rfl rfl) ?_
        -- e slot 90: call F11<farandole/farandolelaw49.to> t89
        refine seqE rfl rfl (stepCall rfl Try.call11 rfl ?_)
        refine (toT_c A ca l H7 (hA.ext x7) (by omega)).mono ?_
        rintro v H8 ⟨o8, x8⟩
        obtain ⟨V8, c8, rfl, hc8, -⟩ := o8.form
        replace x8 := x7.trans x8
        clear x7
        refine seqQ rfl rfl (yMove (v := .int _ _) rfl rfl) ?_
        refine seqQ rfl rfl (ySub rfl rfl rfl (by unfold In64; omega)) ?_
        -- e slot 93: call F10<farandole/timer.Expire> t90 t92
        refine seqE rfl rfl (stepCall rfl Try.call10 rfl ?_)
        have hc := expire_c V8 c8 l (l[0].1 - 1) H8 (Own.rd o8).2 (by omega) hc8
        have eb := exp_before hv
        rw [eg] at eb
        rw [eb] at hc
        refine hc.mono ?_
        rintro v H9 ⟨V9, c9, W9, d9, rfl, -, -, x9⟩
        replace x9 := x8.trans x9
        clear x8 o8 hc
        refine seqQ rfl rfl (yMove (v := .tuple _) rfl rfl) ?_
        refine seqQ rfl rfl (yExtract (v := .slice _ _ _) rfl rfl rfl) ?_
        refine seqQ rfl rfl (yExtract (v := .slice _ _ _) rfl rfl rfl) ?_
        refine seqQ rfl rfl (yAssign (v := .slice _ _ _) rfl rfl) ?_
        refine seqQ rfl rfl (yAssign (v := .slice _ _ _) rfl rfl) ?_
        refine seqNil ?_
        refine hF15 _ _ ?_; clear hF15
        refine wpSeq fun F16 hF16 => ?_
        refine wpRegion ?_
        refine seqQ rfl rfl (yMove (v := .slice _ _ _) rfl rfl) ?_
        -- e slot 98: call F11<farandole/farandolelaw49.to> t97
        refine seqE rfl rfl (stepCall rfl Try.call11 rfl ?_)
        refine (toT_c A ca l H9 (hA.ext x9) (by omega)).mono ?_
        rintro v H10 ⟨o10, x10⟩
        obtain ⟨V10, c10, rfl, hc10, -⟩ := o10.form
        refine seqQ rfl rfl (yMove (v := .int _ _) rfl rfl) ?_
        -- e slot 100: call F10<farandole/timer.Expire> t98 t99
        refine seqE rfl rfl (stepCall rfl Try.call10 rfl ?_)
        refine (expire_c V10 c10 l l[0].1 H10 (Own.rd o10).2 (by omega) hc10).mono ?_
        rintro v H11 ⟨V11, c11, W11, d11, rfl, -, -, x11⟩
        have es := exp_some hv h0
        rw [eg] at es
        refine seqQ rfl rfl (yMove (v := .tuple _) rfl rfl) ?_
        refine seqQ rfl rfl (yExtract (v := .slice _ _ _) rfl rfl rfl) ?_
        refine seqQ rfl rfl (yExtract (v := .slice _ _ _) rfl rfl rfl) ?_
        refine seqQ rfl rfl (yAssign (v := .slice _ _ _) rfl rfl) ?_
        refine seqQ rfl rfl (yAssign (v := .slice _ _ _) rfl rfl) ?_
        refine seqNil ?_
        refine hF16 _ _ ?_; clear hF16
        refine wpSeq fun F17 hF17 => ?_
        refine wpRegion ?_
        refine seqQ rfl rfl (yMove (v := .slice _ _ _) rfl rfl) ?_
        refine seqQ rfl rfl (yLen rfl Try.underlying27 rfl) ?_
        refine seqQ rfl rfl (yEql rfl rfl rfl) ?_
        refine seqQ rfl rfl (yMove (v := .bool true) rfl rfl) ?_
        refine seqQ rfl rfl (yMove (v := .slice _ _ _) rfl rfl) ?_
        refine seqQ rfl rfl (yLen rfl Try.underlying27 rfl) ?_
        refine seqQ rfl rfl (yGtr rfl rfl rfl) ?_
        refine seqQ rfl rfl (yPickT (v := .bool _) rfl rfl rfl) ?_
        refine seqQ rfl rfl (yAssign (v := .bool _) rfl rfl) ?_
        refine seqNil ?_
        refine hF17 _ _ ?_; clear hF17
        -- ret
        refine wpRet (fin1 (v := .bool _) rfl rfl ?_)
        exact ⟨by rw [decide_eq_true (by omega)], (x9.trans x10).trans x11⟩
    · skip
      have hn : l = [] := List.eq_nil_of_length_eq_zero (by omega)
      subst hn
      refine seqQ rfl rfl (yMove (v := .bool false) rfl rfl) ?_
      refine seqU rfl rfl ?_
      refine seqU rfl rfl ?_
      refine seqU rfl rfl ?_
      refine seqU rfl rfl ?_
      refine seqU rfl rfl ?_
      refine seqU rfl rfl ?_
      refine seqQ rfl rfl (yPickF (v := .bool _) rfl rfl rfl) ?_
      refine seqQ rfl rfl (yPickF (v := .bool _) rfl rfl rfl) ?_
      refine seqQ rfl rfl (yMove (v := .bool false) rfl rfl) ?_
      refine seqQ rfl rfl (yMove (v := .bool _) rfl rfl) ?_
      refine seqQ rfl rfl (yNot rfl rfl) ?_
      refine seqQ rfl rfl (yMove (v := .bool true) rfl rfl) ?_
      refine seqQ rfl rfl (yMove (v := .int _ _) rfl rfl) ?_
      refine seqQ rfl rfl (yNeq rfl rfl rfl) ?_
      refine seqQ rfl rfl (yPickT (v := .bool _) rfl rfl rfl) ?_
      refine seqQ rfl rfl (yPickF (v := .bool _) rfl rfl rfl) ?_
      refine seqNil ?_
      refine hF11 _ _ ?_; clear hF11
      -- if t80
      refine wpF rfl ?_
      refine wpSkip ?_
      refine hF10 _ _ ?_; clear hF10
      refine wpSeq fun F18 hF18 => ?_
      refine wpSeq fun F19 hF19 => ?_
      refine wpRegion ?_
      refine seqQ rfl rfl (yMove (v := .slice _ _ _) rfl rfl) ?_
      -- e slot 82: call F9<farandole/farandoleref49.Valid> t81
      refine seqE rfl rfl (stepCall rfl Try.call9 rfl ?_)
      refine (rValidT_c A ca [] H6 (Rd.nil _ _) (by simp)).mono ?_
      rintro v H7 ⟨rfl, x7⟩
      rw [decide_eq_true valid_nil]
      refine seqQ rfl rfl (yNot rfl rfl) ?_
      refine seqQ rfl rfl (yMove (v := .bool false) rfl rfl) ?_
      refine seqQ rfl rfl (yMove (v := .bool _) rfl rfl) ?_
      refine seqQ rfl rfl (yNot rfl rfl) ?_
      refine seqQ rfl rfl (yPickF (v := .bool _) rfl rfl rfl) ?_
      refine seqNil ?_
      refine hF19 _ _ ?_; clear hF19
      -- if t87
      refine wpT rfl ?_
      refine wpSeq fun F20 hF20 => ?_
      refine wpRegion ?_
      refine seqQ rfl rfl (yAssign (v := .bool _) rfl rfl) ?_
      refine seqNil ?_
      refine hF20 _ _ ?_; clear hF20
      -- ret
      refine wpRet (fin1 (v := .bool _) rfl rfl ?_)
      exact ⟨rfl, x6.trans x7⟩
set_option maxRecDepth 100000 in
set_option maxRecDepth 100000 in
theorem timerExpire_lifted (os : Os) (started : os.Started) (H : Type) (enc : TypeId × Value → H) :
    ReturnsInHanded {} Try.checked os 4 .any (Rows.timerExpireSpec.pre6 enc Try.prog Try.f4 Rows.timerExpireRow.domain false) (Rows.timerExpireSpec.post enc Try.prog Try.f4 false true false false) := by
  refine law_lifted started Rows.timerExpireSpec rfl (by kernel_rfl) Try.func4 rfl
    (fun ds h => by match ds, h with | [_, _], _ => rfl) (of_decide_eq_true (by kernel_rfl))
    (ChangeSpec.witness6 (enc := enc) (C := Try.checked) false ⟨#[], #[.slice none 0 0, .int .i64 0], []⟩ 8 (by kernel_rfl) (by kernel_rfl) (by kernel_rfl) (by kernel_rfl)) ?_
  intro W base args ds p hval hA
  rw [Try.params4] at hA hval
  obtain ⟨v0, v1, d0, d1, p0, p1, rfl, rfl, rfl, h0, h1⟩ := trodAll_two hA
  have g0 := hval 0 _ v0 rfl rfl
  have g1 := hval 1 _ v1 rfl rfl
  obtain ⟨⟨A, ca, l⟩, rfl, kA, -, k2, k3⟩ := (opn_tms W).one (one_slice Try.underlying22 g0) h0
  obtain ⟨now, rfl, -⟩ := (opn_int (W := W) Try.underlying3 (by kernel_rfl)).one (one_int Try.underlying3 g1) h1
  exact texp_walk A ca l now W.heap kA (by have := Nat.le_trans k2 k3; unfold maxLen at this; exact this)
set_option maxRecDepth 100000 in
theorem timerExpire_holds : Rows.TimerExpireSaid :=
  OpenClaim.holds_of_wide 4 Try.f4 rfl rfl rfl rfl rfl rfl rfl ⟨rfl, rfl, rfl, rfl, rfl⟩ rfl rfl rfl rfl rfl (by kernel_rfl) Try.func4 (by kernel_rfl)
    (of_decide_eq_true (by kernel_rfl)) (by unfold Func.isWrapper; first | (rw [if_pos (by decide +kernel)]; kernel_rfl) | (rw [if_neg (by decide +kernel)]; exact ⟨rfl, rfl⟩))
    (fun os started H enc _ => timerExpire_lifted os started H enc)
end Go.Proofs.Ytbicgjleomkhdaa
