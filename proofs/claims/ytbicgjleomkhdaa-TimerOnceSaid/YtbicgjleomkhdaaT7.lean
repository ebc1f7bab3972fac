/- Package timer: the document's Set, Cancel, Expire. -/
import Derived.Test.YtbicgjleomkhdaaT6
namespace Go.Proofs.Ytbicgjleomkhdaa
open Go.RowKit

set_option maxRecDepth 100000 in
theorem rWout_c (A : Option Addr) (c : Nat) (l : List Tm) (id : Int) (H : Heap) (hA : Rd eTm H A l) (hl : l.length ≤ 1000000) :
    CallsH Try.prog 31 [.slice A l.length c, .int .i64 id] H fun v H' => Own eTm 42 H' H.size v (woutT l id) ∧ Ext H H' := by
  refine callsH_of Try.func31 rfl Try.ntmps31 (Nat.le_of_ble_eq_true rfl) ?_
  refine wpSeq fun F1 hF1 => ?_
  refine wpRegion ?_
  refine seqQ rfl rfl (yAssign (v := .slice _ _ _) rfl rfl) ?_
  refine seqNil ?_
  refine hF1 _ _ ?_; clear hF1
  refine wpSeq fun F2 hF2 => ?_
  refine wpRegion ?_
  refine seqQ rfl rfl (yAssign (v := .slice _ _ _) rfl rfl) ?_
  refine seqNil ?_
  refine hF2 _ _ ?_; clear hF2
  refine wpSeq fun F3 hF3 => ?_
  refine wpSeq fun F4 hF4 => ?_
  refine wpRegion ?_
  refine seqQ rfl rfl (yAssign (v := .int _ _) rfl rfl) ?_
  refine seqNil ?_
  refine hF4 _ _ ?_; clear hF4
  -- loop
  refine wpBlock ?_
  refine wpLoopS [5, 6, 7, 8, 9, 10, 11, 12, 13, 14, 15, 16, 17, 18, 19, 20, 21, 22, 23, 24, 25, 26] (fun x : Nat × Value => [(6, .int .i64 x.1), (5, x.2)]) (fun x H' => x.1 ≤ l.length ∧ Own eTm 42 H' H.size x.2 (woutT (l.take x.1) id) ∧ Ext H H') (fun x => l.length - x.1) (0, .slice none 0 0) ⟨rfl, rfl, trivial⟩ ⟨Nat.zero_le _, Own.nil _ _, Ext.refl _⟩ ?_
  rintro ⟨k, v⟩ J H1 ⟨hk, ow, hE⟩
  dsimp only at hk ow
  obtain ⟨VA, vc, rfl, -⟩ := ow.form
  have hwl := woutT_len (l.take k) id
  rw [List.length_take] at hwl
  refine wpSeq fun F5 hF5 => ?_
  refine wpSeq fun F6 hF6 => ?_
  refine wpRegion ?_
  refine seqQ rfl rfl (yMove (v := .int _ _) rfl rfl) ?_
  refine seqQ rfl rfl (yMove (v := .slice _ _ _) rfl rfl) ?_
  refine seqQ rfl rfl (yLen rfl Try.underlying22 rfl) ?_
  refine seqQ rfl rfl (yLss rfl rfl rfl) ?_
  refine seqNil ?_
  refine hF6 _ _ ?_; clear hF6
  -- if t10
  refine wpIf rfl (fun hlt => ?_) (fun hlt => ?_)
  · skip
    have hk : k < l.length := by dsimp only at hlt; omega
    obtain ⟨p, ep, hp⟩ := (hA.ext hE).at hk
    refine wpSkip ?_
    refine hF5 _ _ ?_; clear hF5
    refine wpSeq fun F7 hF7 => ?_
    refine wpBlock ?_
    refine wpSeq fun F8 hF8 => ?_
    refine wpRegion ?_
    refine seqQ rfl rfl (yMove (v := .slice _ _ _) rfl rfl) ?_
    refine seqQ rfl rfl (yMove (v := .int _ _) rfl rfl) ?_
    refine seqQ rfl rfl (yIdxP rfl Try.underlying22 Try.sizeOf42 rfl rfl ep rfl hk) ?_
    refine seqQ rfl rfl (yFieldAddr rfl Try.underlying42 rfl Try.sizeOf3 rfl rfl) ?_
    refine seqQ rfl rfl (yLoad rfl Try.underlying3 rfl rfl (hp 1 _ rfl)) ?_
    refine seqQ rfl rfl (yMove (v := .int _ _) rfl rfl) ?_
    refine seqQ rfl rfl (yNeq rfl rfl rfl) ?_
    refine seqNil ?_
    refine hF8 _ _ ?_; clear hF8
    -- if t19
    refine wpCond rfl (fun he => ?_) (fun he => ?_)
    · skip
      have he : ¬ l[k].2 = id := by simpa using he
      refine wpRegion ?_
      refine seqQ rfl rfl (yMove (v := .slice _ _ _) rfl rfl) ?_
      refine seqQ rfl rfl (yMove (v := .slice _ _ _) rfl rfl) ?_
      refine seqQ rfl rfl (yMove (v := .int _ _) rfl rfl) ?_
      refine seqQ rfl rfl (yIdxP rfl Try.underlying22 Try.sizeOf42 rfl rfl ep rfl hk) ?_
      refine seqQ rfl rfl (yLoadC (cs := eTm.F l[k]) rfl Try.underlying42 rfl Try.sizeOf42 rfl hp) ?_
      refine seqN rfl rfl (nBuildSliceN (vs := [.agg _]) rfl Try.underlying22 Try.sizeOf42 Try.zeroValue42 rfl rfl rfl rfl rfl) (fun g25 H25 hx25 hB25 hg25 hl25 => ?_)
      -- e slot 26: builtin append t20 t25 : [22, 22]
      refine seqE rfl rfl (stepApp (c := eTm) (ow.ext hx25) rfl Try.underlying22 elem_eTmr rfl (by omega) rfl rfl rfl (Blk.rd (c := eTm) (l := [l[k]]) hB25) (by simp; omega) (by have := hE.size; have := hx25.size; omega) ?_)
      intro v H5 o5 gr
      have x5 : Ext H H5 := gr.ext (hE.trans hx25) (fun g e => (ow.lt g e).1)
      obtain ⟨V3, c3, rfl, -⟩ := o5.form
      refine seqQ rfl rfl (yAssign (v := .slice _ _ _) rfl rfl) ?_
      refine seqNil ?_
      refine hF7 _ _ ?_; clear hF7
      refine wpRegion ?_
      refine seqQ rfl rfl (yMove (v := .int _ _) rfl rfl) ?_
      refine seqQ rfl rfl (yAdd rfl rfl rfl (by unfold In64; omega)) ?_
      refine seqQ rfl rfl (yAssign (v := .int _ _) rfl rfl) ?_
      refine seqNil ?_
      -- end loop
      refine loopEnd (k + 1, _) (by repeat (first | (with_reducible exact Agree.refl _ _) | refine Agree.upd ?_ rfl | refine Agree.over ?_ rfl)) (by dsimp only; omega) ⟨rfl, rfl, trivial⟩ ⟨hk, ?_, x5⟩
      dsimp only
      rw [woutT_take hk, if_neg he]
      exact o5
    · skip
      have he : l[k].2 = id := by simpa using he
      refine wpSkip ?_
      refine hF7 _ _ ?_; clear hF7
      refine wpRegion ?_
      refine seqQ rfl rfl (yMove (v := .int _ _) rfl rfl) ?_
      refine seqQ rfl rfl (yAdd rfl rfl rfl (by unfold In64; omega)) ?_
      refine seqQ rfl rfl (yAssign (v := .int _ _) rfl rfl) ?_
      refine seqNil ?_
      -- end loop
      refine loopEnd (k + 1, _) (by repeat (first | (with_reducible exact Agree.refl _ _) | refine Agree.upd ?_ rfl | refine Agree.over ?_ rfl)) (by dsimp only; omega) ⟨rfl, rfl, trivial⟩ ⟨hk, ?_, hE⟩
      dsimp only
      rw [woutT_take hk, if_pos he, List.append_nil]
      exact ow
  · skip
    have hkl : k = l.length := by dsimp only at hlt; omega
    refine wpExit ?_
    refine hF3 _ _ ?_; clear hF3
    refine wpSeq fun F9 hF9 => ?_
    refine wpRegion ?_
    refine seqQ rfl rfl (yMove (v := .slice _ _ _) rfl rfl) ?_
    refine seqQ rfl rfl (yAssign (v := .slice _ _ _) rfl rfl) ?_
    refine seqNil ?_
    refine hF9 _ _ ?_; clear hF9
    -- ret
    refine wpRet (fin1 (v := .slice _ _ _) rfl rfl ?_)
    rw [hkl, List.take_length] at ow ⊢
    exact ⟨ow, hE⟩
set_option maxRecDepth 100000 in
theorem rCancel_c (A : Option Addr) (c : Nat) (l : List Tm) (id : Int) (H : Heap) (hA : Rd eTm H A l) (hl : l.length ≤ 100000) :
    CallsH Try.prog 22 [.slice A l.length c, .int .i64 id] H fun v H' => ∃ (V : Option Addr) (vc : Nat), v = .tuple #[.slice V (cancelT l id).2.length vc, .int .i64 (cancelT l id).1] ∧ Rd eTm H' V (cancelT l id).2 ∧ Ext H H' := by
  refine callsH_of Try.func22 rfl Try.ntmps22 (Nat.le_of_ble_eq_true rfl) ?_
  refine wpSeq fun F1 hF1 => ?_
  refine wpRegion ?_
  refine seqQ rfl rfl (yAssign (v := .slice _ _ _) rfl rfl) ?_
  refine seqQ rfl rfl (yAssign (v := .int _ _) rfl rfl) ?_
  refine seqNil ?_
  refine hF1 _ _ ?_; clear hF1
  refine wpSeq fun F2 hF2 => ?_
  refine wpSeq fun F3 hF3 => ?_
  refine wpRegion ?_
  refine seqQ rfl rfl (yMove (v := .slice _ _ _) rfl rfl) ?_
  -- e slot 8: call F9<farandole/farandoleref49.Valid> t7
  refine seqE rfl rfl (stepCall rfl Try.call9 rfl ?_)
  refine (rValidT_c A c l H hA (by omega)).mono ?_
  rintro v H2 ⟨rfl, x2⟩
  refine seqQ rfl rfl (yNot rfl rfl) ?_
  refine seqNil ?_
  refine hF3 _ _ ?_; clear hF3
  -- if t9
  refine wpCond rfl (fun hv => ?_) (fun hv => ?_)
  · skip
    have hv : ¬ ValidT l := by simpa using hv
    refine wpSeq fun F4 hF4 => ?_
    refine wpRegion ?_
    refine seqQ rfl rfl (yAssign (v := .slice _ _ _) rfl rfl) ?_
    refine seqQ rfl rfl (yAssign (v := .int _ _) rfl rfl) ?_
    refine seqNil ?_
    refine hF4 _ _ ?_; clear hF4
    -- ret
    refine wpRet (fin2 (v := .slice _ _ _) (v' := .int _ _) rfl rfl rfl ?_)
    rw [cancelT_bad hv]
    exact ⟨none, 0, rfl, Rd.nil _ _, x2⟩
  · skip
    have hv : ValidT l := by simpa using hv
    refine wpSkip ?_
    refine hF2 _ _ ?_; clear hF2
    refine wpSeq fun F5 hF5 => ?_
    refine wpRegion ?_
    refine seqQ rfl rfl (yMove (v := .slice _ _ _) rfl rfl) ?_
    refine seqQ rfl rfl (yMove (v := .int _ _) rfl rfl) ?_
    -- e slot 12: call F31<farandole/farandoleref49.without> t10 t11
    refine seqE rfl rfl (stepCall rfl Try.call31 rfl ?_)
    refine (rWout_c A c l id H2 (hA.ext x2) (by omega)).mono ?_
    rintro v H4 ⟨o4, x4⟩
    obtain ⟨V4, c4, rfl, hlc, -⟩ := o4.form
    refine seqQ rfl rfl (yAssign (v := .slice _ _ _) rfl rfl) ?_
    refine seqNil ?_
    refine hF5 _ _ ?_; clear hF5
    refine wpSeq fun F6 hF6 => ?_
    refine wpSeq fun F7 hF7 => ?_
    refine wpRegion ?_
    refine seqQ rfl rfl (yMove (v := .slice _ _ _) rfl rfl) ?_
    refine seqQ rfl rfl (yLen rfl Try.underlying22 rfl) ?_
    refine seqQ rfl rfl (yMove (v := .slice _ _ _) rfl rfl) ?_
    refine seqQ rfl rfl (yLen rfl Try.underlying22 rfl) ?_
    refine seqQ rfl rfl (yEql rfl rfl rfl) ?_
    refine seqNil ?_
    refine hF7 _ _ ?_; clear hF7
    -- if t17
    refine wpIf rfl (fun hn => ?_) (fun hn => ?_)
    · skip
      refine wpSeq fun F8 hF8 => ?_
      refine wpRegion ?_
      refine seqQ rfl rfl (yAssign (v := .slice _ _ _) rfl rfl) ?_
      refine seqQ rfl rfl (yAssign (v := .int _ _) rfl rfl) ?_
      refine seqNil ?_
      refine hF8 _ _ ?_; clear hF8
      -- ret
      refine wpRet (fin2 (v := .slice _ _ _) (v' := .int _ _) rfl rfl rfl ?_)
      rw [cancelT_none hv (by omega)]
      exact ⟨none, 0, rfl, Rd.nil _ _, x2.trans x4⟩
    · skip
      refine wpSkip ?_
      refine hF6 _ _ ?_; clear hF6
      refine wpSeq fun F9 hF9 => ?_
      refine wpRegion ?_
      refine seqQ rfl rfl (yMove (v := .slice _ _ _) rfl rfl) ?_
      refine seqQ rfl rfl (yAssign (v := .slice _ _ _) rfl rfl) ?_
      refine seqQ rfl rfl (yAssign (v := .int _ _) rfl rfl) ?_
      refine seqNil ?_
      refine hF9 _ _ ?_; clear hF9
      -- ret
      refine wpRet (fin2 (v := .slice _ _ _) (v' := .int _ _) rfl rfl rfl ?_)
      rw [cancelT_ok hv (by omega)]
      exact ⟨V4, c4, rfl, (Own.rd o4).2, x2.trans x4⟩
set_option maxRecDepth 100000 in
theorem srt_time {t : List Tm} (h : ValidT t) : ∀ (i j : Nat) (hi : i < t.length) (hj : j < t.length), i ≤ j → t[i].1 ≤ t[j].1 := fun i j hi hj hij => by
  rcases Nat.lt_or_eq_of_le hij with h' | h'
  · have := List.pairwise_iff_getElem.1 h.srt i j hi hj h'
    unfold befT at this
    omega
  · subst h'
    exact Int.le_refl _
set_option maxRecDepth 100000 in
theorem exp_filter {t : List Tm} {now : Int} (h : t.Pairwise befT) : t.filter (fun x => decide (x.1 ≤ now)) = t.takeWhile (fun x => decide (x.1 ≤ now)) ∧ t.filter (fun x => !decide (x.1 ≤ now)) = t.dropWhile (fun x => decide (x.1 ≤ now)) := by
  induction t with
  | nil => exact ⟨rfl, rfl⟩
  | cons a t ih =>
    rw [List.pairwise_cons] at h
    obtain ⟨h1, h2⟩ := h
    obtain ⟨i1, i2⟩ := ih h2
    by_cases ha : a.1 ≤ now
    · simp only [List.filter_cons, List.takeWhile_cons, List.dropWhile_cons, ha, decide_true, if_true, Bool.not_true, Bool.false_eq_true, if_false]
      exact ⟨by rw [i1], i2⟩
    · have hall : ∀ x ∈ t, ¬ x.1 ≤ now := fun x hx => by have := h1 x hx; unfold befT at this; omega
      simp only [List.filter_cons, List.takeWhile_cons, List.dropWhile_cons, ha, decide_false, Bool.false_eq_true, if_false, Bool.not_false, if_true]
      exact ⟨by rw [List.filter_eq_nil_iff]; intro x hx; simpa using hall x hx, by rw [List.filter_eq_self.2]; intro x hx; simpa using hall x hx⟩
set_option maxRecDepth 100000 in
theorem rExpire_c (A : Option Addr) (c : Nat) (l : List Tm) (now : Int) (H : Heap) (hA : Rd eTm H A l) (hl : l.length ≤ 100000) :
    CallsH Try.prog 16 [.slice A l.length c, .int .i64 now] H fun v H' => ∃ (V : Option Addr) (vc : Nat) (W : Option Addr) (wc : Nat), v = .tuple #[.slice V (expT l now).1.length vc, .slice W (expT l now).2.length wc] ∧ Rd eTm H' V (expT l now).1 ∧ Rd eInt H' W (expT l now).2 ∧ Ext H H' := by
  refine callsH_of Try.func16 rfl Try.ntmps16 (Nat.le_of_ble_eq_true rfl) ?_
  refine wpSeq fun F1 hF1 => ?_
  refine wpRegion ?_
  refine seqQ rfl rfl (yAssign (v := .slice _ _ _) rfl rfl) ?_
  refine seqQ rfl rfl (yAssign (v := .slice _ _ _) rfl rfl) ?_
  refine seqNil ?_
  refine hF1 _ _ ?_; clear hF1
  refine wpSeq fun F2 hF2 => ?_
  refine wpSeq fun F3 hF3 => ?_
  refine wpRegion ?_
  refine seqQ rfl rfl (yMove (v := .slice _ _ _) rfl rfl) ?_
  -- e slot 10: call F9<farandole/farandoleref49.Valid> t9
  refine seqE rfl rfl (stepCall rfl Try.call9 rfl ?_)
  refine (rValidT_c A c l H hA (by omega)).mono ?_
  rintro v H2 ⟨rfl, x2⟩
  refine seqQ rfl rfl (yNot rfl rfl) ?_
  refine seqNil ?_
  refine hF3 _ _ ?_; clear hF3
  -- if t11
  refine wpCond rfl (fun hv => ?_) (fun hv => ?_)
  · skip
    have hv : ¬ ValidT l := by simpa using hv
    refine wpSeq fun F4 hF4 => ?_
    refine wpRegion ?_
    refine seqQ rfl rfl (yAssign (v := .slice _ _ _) rfl rfl) ?_
    refine seqQ rfl rfl (yAssign (v := .slice _ _ _) rfl rfl) ?_
    refine seqNil ?_
    refine hF4 _ _ ?_; clear hF4
    -- ret
    refine wpRet (fin2 (v := .slice _ _ _) (v' := .slice _ _ _) rfl rfl rfl ?_)
    rw [expT_bad hv]
    exact ⟨none, 0, none, 0, rfl, Rd.nil _ _, Rd.nil _ _, x2⟩
  · skip
    have hv : ValidT l := by simpa using hv
    refine wpSkip ?_
    refine hF2 _ _ ?_; clear hF2
    refine wpSeq fun F5 hF5 => ?_
    refine wpRegion ?_
    refine seqQ rfl rfl (yAssign (v := .slice _ _ _) rfl rfl) ?_
    refine seqNil ?_
    refine hF5 _ _ ?_; clear hF5
    refine wpSeq fun F6 hF6 => ?_
    refine wpRegion ?_
    refine seqQ rfl rfl (yAssign (v := .slice _ _ _) rfl rfl) ?_
    refine seqNil ?_
    refine hF6 _ _ ?_; clear hF6
    refine wpSeq fun F7 hF7 => ?_
    refine wpSeq fun F8 hF8 => ?_
    refine wpRegion ?_
    refine seqQ rfl rfl (yAssign (v := .int _ _) rfl rfl) ?_
    refine seqNil ?_
    refine hF8 _ _ ?_; clear hF8
    -- loop
    refine wpBlock ?_
    refine wpLoopS [6, 7, 8, 12, 13, 14, 15, 16, 17, 18, 19, 20, 21, 22, 23, 24, 25, 26, 27, 28, 29, 30, 31, 32, 33, 34, 35, 36, 37, 38, 39] (fun x : Nat × Value × Value => [(8, .int .i64 x.1), (6, x.2.1), (7, x.2.2)]) (fun x H' => x.1 ≤ l.length ∧ Ext H H' ∧ Apart x.2.1 x.2.2 ∧ Own eTm 42 H' H.size x.2.1 ((l.take x.1).filter fun x => !decide (x.1 ≤ now)) ∧ Own eInt 3 H' H.size x.2.2 (((l.take x.1).filter fun x => decide (x.1 ≤ now)).map (·.2))) (fun x => l.length - x.1) (0, .slice none 0 0, .slice none 0 0) ⟨rfl, rfl, rfl, trivial⟩ ⟨Nat.zero_le _, x2, Apart.nil _ _ _, Own.nil _ _, Own.nil _ _⟩ ?_
    rintro ⟨k, v1, v2⟩ J H3 ⟨hk, hE, ha, o1, o2⟩
    dsimp only at hk ha o1 o2
    obtain ⟨VA, vc, rfl, -⟩ := o1.form
    obtain ⟨WA, wc, rfl, -⟩ := o2.form
    have hl1 : ((l.take k).filter fun x => !decide (x.1 ≤ now)).length ≤ k := by have := List.length_filter_le (fun x : Tm => !decide (x.1 ≤ now)) (l.take k); rw [List.length_take] at this; omega
    have hl2 : (((l.take k).filter fun x => decide (x.1 ≤ now)).map (·.2)).length ≤ k := by have := List.length_filter_le (fun x : Tm => decide (x.1 ≤ now)) (l.take k); rw [List.length_take] at this; rw [List.length_map]; omega
    refine wpSeq fun F9 hF9 => ?_
    refine wpSeq fun F10 hF10 => ?_
    refine wpRegion ?_
    refine seqQ rfl rfl (yMove (v := .int _ _) rfl rfl) ?_
    refine seqQ rfl rfl (yMove (v := .slice _ _ _) rfl rfl) ?_
    refine seqQ rfl rfl (yLen rfl Try.underlying22 rfl) ?_
    refine seqQ rfl rfl (yLss rfl rfl rfl) ?_
    refine seqNil ?_
    refine hF10 _ _ ?_; clear hF10
    -- if t15
    refine wpIf rfl (fun hlt => ?_) (fun hlt => ?_)
    · skip
      have hk : k < l.length := by dsimp only at hlt; omega
      obtain ⟨p, ep, hp⟩ := (hA.ext hE).at hk
      refine wpSkip ?_
      refine hF9 _ _ ?_; clear hF9
      refine wpSeq fun F11 hF11 => ?_
      refine wpBlock ?_
      refine wpSeq fun F12 hF12 => ?_
      refine wpRegion ?_
      refine seqQ rfl rfl (yMove (v := .slice _ _ _) rfl rfl) ?_
      refine seqQ rfl rfl (yMove (v := .int _ _) rfl rfl) ?_
      refine seqQ rfl rfl (yIdxP rfl Try.underlying22 Try.sizeOf42 rfl rfl ep rfl hk) ?_
      refine seqQ rfl rfl (yFieldAddr rfl Try.underlying42 rfl Try.sizeOf3 rfl rfl) ?_
      refine seqQ rfl rfl (yLoad rfl Try.underlying3 rfl rfl (hp 0 _ rfl)) ?_
      refine seqQ rfl rfl (yMove (v := .int _ _) rfl rfl) ?_
      refine seqQ rfl rfl (yLeq rfl rfl rfl) ?_
      refine seqNil ?_
      refine hF12 _ _ ?_; clear hF12
      -- if t24
      refine wpIf rfl (fun hle => ?_) (fun hle => ?_)
      · skip
        refine wpRegion ?_
        refine seqQ rfl rfl (yMove (v := .slice _ _ _) rfl rfl) ?_
        refine seqQ rfl rfl (yMove (v := .slice _ _ _) rfl rfl) ?_
        refine seqQ rfl rfl (yMove (v := .int _ _) rfl rfl) ?_
        refine seqQ rfl rfl (yIdxP rfl Try.underlying22 Try.sizeOf42 rfl rfl ep rfl hk) ?_
        refine seqQ rfl rfl (yFieldAddr rfl Try.underlying42 rfl Try.sizeOf3 rfl rfl) ?_
        refine seqQ rfl rfl (yLoad rfl Try.underlying3 rfl rfl (hp 1 _ rfl)) ?_
        refine seqN rfl rfl (nBuildSlice (vs := [.int _ _]) rfl Try.underlying27 Try.sizeOf3 Try.zeroValue3 rfl rfl rfl rfl) (fun g31 H31 hx31 hB31 hg31 hl31 => ?_)
        -- e slot 32: builtin append t25 t31 : [27, 27]
        refine seqE rfl rfl (stepApp (c := eInt) (o2.ext hx31) rfl Try.underlying27 elem_eInt rfl (by omega) rfl rfl rfl (Blk.rd (c := eInt) (l := [l[k].2]) hB31) (by simp only [List.length_singleton]; omega) (by have := hE.size; have := hx31.size; omega) ?_)
        intro v H5 o5 gr
        have x5 : Ext H H5 := gr.ext (hE.trans hx31) (fun g e => (o2.lt g e).1)
        have a5 := (ha.symm.grew (o1.ext hx31) gr).symm
        have o1' := (o1.ext hx31).grew gr ha.symm
        obtain ⟨V3, c3, rfl, -⟩ := o5.form
        refine seqQ rfl rfl (yAssign (v := .slice _ _ _) rfl rfl) ?_
        refine seqNil ?_
        refine hF11 _ _ ?_; clear hF11
        refine wpRegion ?_
        refine seqQ rfl rfl (yMove (v := .int _ _) rfl rfl) ?_
        refine seqQ rfl rfl (yAdd rfl rfl rfl (by unfold In64; omega)) ?_
        refine seqQ rfl rfl (yAssign (v := .int _ _) rfl rfl) ?_
        refine seqNil ?_
        -- end loop
        refine loopEnd (k + 1, .slice VA _ vc, .slice V3 _ c3) (by repeat (first | (with_reducible exact Agree.refl _ _) | refine Agree.upd ?_ rfl | refine Agree.over ?_ rfl)) (by dsimp only; omega) ⟨rfl, rfl, rfl, trivial⟩ ⟨hk, x5, a5, ?_, ?_⟩
        · dsimp only
          rw [List.take_succ_eq_append_getElem hk, List.filter_append, List.filter_cons_of_neg (by simpa using hle)]
          simpa using o1'
        · dsimp only
          rw [List.take_succ_eq_append_getElem hk, List.filter_append, List.filter_cons_of_pos (by simpa using hle), List.map_append]
          exact o5
      · skip
        refine wpRegion ?_
        refine seqQ rfl rfl (yMove (v := .slice _ _ _) rfl rfl) ?_
        refine seqQ rfl rfl (yMove (v := .slice _ _ _) rfl rfl) ?_
        refine seqQ rfl rfl (yMove (v := .int _ _) rfl rfl) ?_
        refine seqQ rfl rfl (yIdxP rfl Try.underlying22 Try.sizeOf42 rfl rfl ep rfl hk) ?_
        refine seqQ rfl rfl (yLoadC (cs := eTm.F l[k]) rfl Try.underlying42 rfl Try.sizeOf42 rfl hp) ?_
        refine seqN rfl rfl (nBuildSliceN (vs := [.agg _]) rfl Try.underlying22 Try.sizeOf42 Try.zeroValue42 rfl rfl rfl rfl rfl) (fun g38 H38 hx38 hB38 hg38 hl38 => ?_)
        -- e slot 39: builtin append t33 t38 : [22, 22]
        refine seqE rfl rfl (stepApp (c := eTm) (o1.ext hx38) rfl Try.underlying22 elem_eTmr rfl (by omega) rfl rfl rfl (Blk.rd (c := eTm) (l := [l[k]]) hB38) (by simp only [List.length_singleton]; omega) (by have := hE.size; have := hx38.size; omega) ?_)
        intro v H5 o5 gr
        have x5 : Ext H H5 := gr.ext (hE.trans hx38) (fun g e => (o1.lt g e).1)
        have a5 := ha.grew (o2.ext hx38) gr
        have o2' := (o2.ext hx38).grew gr ha
        obtain ⟨V3, c3, rfl, -⟩ := o5.form
        refine seqQ rfl rfl (yAssign (v := .slice _ _ _) rfl rfl) ?_
        refine seqNil ?_
        refine hF11 _ _ ?_; clear hF11
        refine wpRegion ?_
        refine seqQ rfl rfl (yMove (v := .int _ _) rfl rfl) ?_
        refine seqQ rfl rfl (yAdd rfl rfl rfl (by unfold In64; omega)) ?_
        refine seqQ rfl rfl (yAssign (v := .int _ _) rfl rfl) ?_
        refine seqNil ?_
        -- end loop
        refine loopEnd (k + 1, .slice V3 _ c3, .slice WA _ wc) (by repeat (first | (with_reducible exact Agree.refl _ _) | refine Agree.upd ?_ rfl | refine Agree.over ?_ rfl)) (by dsimp only; omega) ⟨rfl, rfl, rfl, trivial⟩ ⟨hk, x5, a5, ?_, ?_⟩
        · dsimp only
          rw [List.take_succ_eq_append_getElem hk, List.filter_append, List.filter_cons_of_pos (by simpa using hle)]
          exact o5
        · dsimp only
          rw [List.take_succ_eq_append_getElem hk, List.filter_append, List.filter_cons_of_neg (by simpa using hle)]
          simpa using o2'
    · skip
      have hkl : k = l.length := by dsimp only at hlt; omega
      obtain ⟨f1, f2⟩ := exp_filter (now := now) hv.srt
      rw [hkl, List.take_length, f2] at o1
      rw [hkl, List.take_length, f1] at o2
      rw [hkl, List.take_length, f1, f2]
      refine wpExit ?_
      refine hF7 _ _ ?_; clear hF7
      refine wpSeq fun F13 hF13 => ?_
      refine wpRegion ?_
      refine seqQ rfl rfl (yMove (v := .slice _ _ _) rfl rfl) ?_
      refine seqQ rfl rfl (yMove (v := .slice _ _ _) rfl rfl) ?_
      refine seqQ rfl rfl (yAssign (v := .slice _ _ _) rfl rfl) ?_
      refine seqQ rfl rfl (yAssign (v := .slice _ _ _) rfl rfl) ?_
      refine seqNil ?_
      refine hF13 _ _ ?_; clear hF13
      -- ret
      refine wpRet (fin2 (v := .slice _ _ _) (v' := .slice _ _ _) rfl rfl rfl ?_)
      rw [expT_ok hv]
      exact ⟨VA, vc, WA, wc, rfl, (Own.rd o1).2, (Own.rd o2).2, hE⟩
set_option maxRecDepth 100000 in
theorem rSet_c (A : Option Addr) (c : Nat) (l : List Tm) (id a : Int) (H : Heap) (hA : Rd eTm H A l) (hl : l.length ≤ 100000) :
    CallsH Try.prog 20 [.slice A l.length c, .int .i64 id, .int .i64 a] H fun v H' => ∃ (V : Option Addr) (vc : Nat), v = .tuple #[.slice V (setT l id a).2.length vc, .int .i64 (setT l id a).1] ∧ Rd eTm H' V (setT l id a).2 ∧ Ext H H' := by
  have hok : okT (a, id) ↔ (0 ≤ id ∧ 0 ≤ a ∧ a ≤ 1099511627776) := Iff.rfl
  refine callsH_of Try.func20 rfl Try.ntmps20 (Nat.le_of_ble_eq_true rfl) ?_
  refine wpSeq fun F1 hF1 => ?_
  refine wpRegion ?_
  refine seqQ rfl rfl (yAssign (v := .slice _ _ _) rfl rfl) ?_
  refine seqQ rfl rfl (yAssign (v := .int _ _) rfl rfl) ?_
  refine seqNil ?_
  refine hF1 _ _ ?_; clear hF1
  refine wpSeq fun F2 hF2 => ?_
  refine wpSeq fun F3 hF3 => ?_
  refine wpRegion ?_
  refine seqQ rfl rfl (yMove (v := .slice _ _ _) rfl rfl) ?_
  -- e slot 13: call F9<farandole/farandoleref49.Valid> t12
  refine seqE rfl rfl (stepCall rfl Try.call9 rfl ?_)
  refine (rValidT_c A c l H hA (by omega)).mono ?_
  rintro v H2 ⟨rfl, x2⟩
  refine seqQ rfl rfl (yNot rfl rfl) ?_
  refine seqNil ?_
  refine hF3 _ _ ?_; clear hF3
  -- if t14
  refine wpCond rfl (fun hv => ?_) (fun hv => ?_)
  · skip
    have hv : ¬ ValidT l := by simpa using hv
    refine wpSeq fun F4 hF4 => ?_
    refine wpRegion ?_
    refine seqQ rfl rfl (yAssign (v := .slice _ _ _) rfl rfl) ?_
    refine seqQ rfl rfl (yAssign (v := .int _ _) rfl rfl) ?_
    refine seqNil ?_
    refine hF4 _ _ ?_; clear hF4
    -- ret
    refine wpRet (fin2 (v := .slice _ _ _) (v' := .int _ _) rfl rfl rfl ?_)
    rw [setT_bad hv]
    exact ⟨none, 0, rfl, Rd.nil _ _, x2⟩
  · skip
    have hv : ValidT l := by simpa using hv
    refine wpSkip ?_
    refine hF2 _ _ ?_; clear hF2
    refine wpSeq fun F5 hF5 => ?_
    refine wpSeq fun F6 hF6 => ?_
    refine wpRegion ?_
    refine seqQ rfl rfl (yMove (v := .int _ _) rfl rfl) ?_
    refine seqQ rfl rfl (yLss rfl rfl rfl) ?_
    first | refine seqG rfl rfl rfl rfl (fun h17 => ?_) (fun h17 => ?_) | refine seqGB rfl rfl rfl rfl (fun h17 => ?_) (fun h17 => ?_)
    · skip
      refine seqU rfl rfl ?_
      refine seqU rfl rfl ?_
      refine seqQ rfl rfl (yPickT (v := .bool _) rfl rfl rfl) ?_
      refine seqQ rfl rfl (yMove (v := .bool true) rfl rfl) ?_
      refine seqU rfl rfl ?_
      refine seqU rfl rfl ?_
      refine seqQ rfl rfl (yPickT (v := .bool _) rfl rfl rfl) ?_
      refine seqNil ?_
      refine hF6 _ _ ?_; clear hF6
      refine wpT rfl ?_
      refine wpSeq fun F7 hF7 => ?_
      refine wpRegion ?_
      refine seqQ rfl rfl (yAssign (v := .slice _ _ _) rfl rfl) ?_
      refine seqQ rfl rfl (yAssign (v := .int _ _) rfl rfl) ?_
      refine seqNil ?_
      refine hF7 _ _ ?_; clear hF7
      refine wpRet (fin2 (v := .slice _ _ _) (v' := .int _ _) rfl rfl rfl ?_)
      rw [setT_range hv (by rw [hok]; omega)]
      exact ⟨none, 0, rfl, Rd.nil _ _, x2⟩
    refine seqQ rfl rfl (yMove (v := .int _ _) rfl rfl) ?_
    refine seqQ rfl rfl (yLss rfl rfl rfl) ?_
    refine seqQ rfl rfl (yPickF (v := .bool _) rfl rfl rfl) ?_
    first | refine seqG rfl rfl rfl rfl (fun h21 => ?_) (fun h21 => ?_) | refine seqGB rfl rfl rfl rfl (fun h21 => ?_) (fun h21 => ?_)
    · skip
      refine seqU rfl rfl ?_
      refine seqU rfl rfl ?_
      refine seqQ rfl rfl (yPickT (v := .bool _) rfl rfl rfl) ?_
      refine seqNil ?_
      refine hF6 _ _ ?_; clear hF6
      refine wpT rfl ?_
      refine wpSeq fun F8 hF8 => ?_
      refine wpRegion ?_
      refine seqQ rfl rfl (yAssign (v := .slice _ _ _) rfl rfl) ?_
      refine seqQ rfl rfl (yAssign (v := .int _ _) rfl rfl) ?_
      refine seqNil ?_
      refine hF8 _ _ ?_; clear hF8
      refine wpRet (fin2 (v := .slice _ _ _) (v' := .int _ _) rfl rfl rfl ?_)
      rw [setT_range hv (by rw [hok]; omega)]
      exact ⟨none, 0, rfl, Rd.nil _ _, x2⟩
    refine seqQ rfl rfl (yMove (v := .int _ _) rfl rfl) ?_
    refine seqQ rfl rfl (yGtr rfl rfl rfl) ?_
    refine seqQ rfl rfl (yPickF (v := .bool _) rfl rfl rfl) ?_
    refine seqNil ?_
    refine hF6 _ _ ?_; clear hF6
    -- if t24
    refine wpIf rfl (fun hr => ?_) (fun hr => ?_)
    · skip
      refine wpSeq fun F9 hF9 => ?_
      refine wpRegion ?_
      refine seqQ rfl rfl (yAssign (v := .slice _ _ _) rfl rfl) ?_
      refine seqQ rfl rfl (yAssign (v := .int _ _) rfl rfl) ?_
      refine seqNil ?_
      refine hF9 _ _ ?_; clear hF9
      -- ret
      refine wpRet (fin2 (v := .slice _ _ _) (v' := .int _ _) rfl rfl rfl ?_)
      rw [setT_range hv (by rw [hok]; omega)]
      exact ⟨none, 0, rfl, Rd.nil _ _, x2⟩
    · skip
      have ho : okT (a, id) := by rw [hok]; omega
      refine wpSkip ?_
      refine hF5 _ _ ?_; clear hF5
      refine wpSeq fun F10 hF10 => ?_
      refine wpRegion ?_
      refine seqQ rfl rfl (yMove (v := .slice _ _ _) rfl rfl) ?_
      refine seqQ rfl rfl (yMove (v := .int _ _) rfl rfl) ?_
      -- e slot 27: call F31<farandole/farandoleref49.without> t25 t26
      refine seqE rfl rfl (stepCall rfl Try.call31 rfl ?_)
      refine (rWout_c A c l id H2 (hA.ext x2) (by omega)).mono ?_
      rintro v H4 ⟨o4, x4⟩
      obtain ⟨V4, c4, rfl, hlc, -⟩ := o4.form
      have x14 := x2.trans x4
      have hwl := woutT_len l id
      have hl3 := hv.2
      refine seqQ rfl rfl (yAssign (v := .slice _ _ _) rfl rfl) ?_
      refine seqNil ?_
      refine hF10 _ _ ?_; clear hF10
      refine wpSeq fun F11 hF11 => ?_
      refine wpSeq fun F12 hF12 => ?_
      refine wpRegion ?_
      refine seqQ rfl rfl (yMove (v := .slice _ _ _) rfl rfl) ?_
      refine seqQ rfl rfl (yLen rfl Try.underlying22 rfl) ?_
      refine seqQ rfl rfl (yGeq rfl rfl rfl) ?_
      refine seqNil ?_
      refine hF12 _ _ ?_; clear hF12
      -- if t30
      refine wpIf rfl (fun hf => ?_) (fun hf => ?_)
      · skip
        refine wpSeq fun F13 hF13 => ?_
        refine wpRegion ?_
        refine seqQ rfl rfl (yAssign (v := .slice _ _ _) rfl rfl) ?_
        refine seqQ rfl rfl (yAssign (v := .int _ _) rfl rfl) ?_
        refine seqNil ?_
        refine hF13 _ _ ?_; clear hF13
        -- ret
        refine wpRet (fin2 (v := .slice _ _ _) (v' := .int _ _) rfl rfl rfl ?_)
        rw [setT_full hv ho (by omega)]
        exact ⟨none, 0, rfl, Rd.nil _ _, x14⟩
      · skip
        refine wpSkip ?_
        refine hF11 _ _ ?_; clear hF11
        refine wpSeq fun F14 hF14 => ?_
        refine wpRegion ?_
        refine seqQ rfl rfl (yMove (v := .int _ _) rfl rfl) ?_
        refine seqQ rfl rfl (yMove (v := .int _ _) rfl rfl) ?_
        refine seqQ rfl rfl (yBuild (pl := [(0, 1), (1, 1)]) (vs := [(0, .int _ _), (1, .int _ _)]) rfl Try.underlying42 Try.zeroValue42 rfl (by unfold Places; kernel_rfl) rfl rfl) ?_
        refine seqN rfl rfl (nAlloc rfl Try.zeroValue42 rfl) (fun g9 H9 hx9 hB9 hg9 hl9 => ?_)
        -- e slot None: store T42 t9 t33
        refine seqE0 rfl rfl (stepStoreB rfl (by kernel_rfl) rfl rfl rfl hB9 rfl ?_)
        intro Hs h9 hKs
        have xs : Ext H4 Hs := hx9.mine hKs (by simp; omega)
        replace h9 : Blk Hs g9 (eTm.F (a, id)) 42 := h9
        have gl := h9.lt
        clear hB9 hx9 hKs
        refine seqNil ?_
        refine hF14 _ _ ?_; clear hF14
        refine wpSeq fun F15 hF15 => ?_
        refine wpRegion ?_
        refine seqQ rfl rfl (yAssign (v := .slice _ _ _) rfl rfl) ?_
        refine seqNil ?_
        refine hF15 _ _ ?_; clear hF15
        refine wpSeq fun F16 hF16 => ?_
        refine wpRegion ?_
        refine seqQ rfl rfl (yAssign (v := .int _ _) rfl rfl) ?_
        refine seqNil ?_
        refine hF16 _ _ ?_; clear hF16
        refine wpSeq fun F17 hF17 => ?_
        -- loop
        refine wpBlock ?_
        refine wpLoopS [10, 11, 34, 35, 36, 37, 38, 39, 40, 41, 42, 43, 44, 45, 46, 47, 48, 49, 50, 51, 52, 53, 54] (fun x : Nat × Value => [(11, .int .i64 x.1), (10, x.2)]) (fun x H' => x.1 ≤ (woutT l id).length ∧ (∀ (j : Nat) (hj : j < (woutT l id).length), j < x.1 → befT (woutT l id)[j] (a, id)) ∧ Own eTm 42 H' Hs.size x.2 ((woutT l id).take x.1) ∧ Ext Hs H') (fun x => (woutT l id).length - x.1) (0, .slice none 0 0) ⟨rfl, rfl, trivial⟩ ⟨Nat.zero_le _, fun j _ hj => absurd hj (by dsimp only; omega), Own.nil _ _, Ext.refl _⟩ ?_
        rintro ⟨k, v⟩ J Hk ⟨hk, hlo, ow, hE⟩
        dsimp only at hk hlo ow
        obtain ⟨VA, vc, rfl, -⟩ := ow.form
        replace h9 := h9.ext hE
        have sE := hE.size
        have hMb : ∀ b ∈ (Value.slice VA ((woutT l id).take k).length vc).ownBlock.toList, Hs.size ≤ b ∧ b < Hk.size := fun b hb => by rw [Option.mem_toList] at hb; exact ow.lt b hb
        refine wpSeq fun F18 hF18 => ?_
        refine wpSeq fun F19 hF19 => ?_
        refine wpRegionD Try_mixed [.q, .q, .q, .q, .q, .q, .q, .q, .q, .q, .e, .q] 10 [0, 0, 2, 7, 15, 31, 31, 127, 255, 31, 1023, 2047] [] (by kernel_rfl) _ rfl [0, 1, 2, 3, 4, 5, 6, 7, 8, 9] rfl (by simp) ?_
        refine lexQ rfl rfl rfl rfl (fun H hM => (yMove (v := .int _ _) rfl rfl)) ?_
        refine lexQ rfl rfl rfl rfl (fun H hM => (yMove (v := .slice _ _ _) rfl rfl)) ?_
        refine lexQ rfl rfl rfl rfl (fun H hM => (yLen rfl Try.underlying22 rfl)) ?_
        refine lexQ rfl rfl rfl rfl (fun H hM => (yLss rfl rfl rfl)) ?_
        -- guard t38
        refine lexG rfl rfl rfl rfl rfl rfl (fun hlt => ?_) (fun hlt => ?_)
        · skip
          have hk : k < (woutT l id).length := by dsimp only at hlt; omega
          obtain ⟨p, ep, hp⟩ := (((Own.rd o4).2.ext xs).ext hE).at hk
          refine lexQ rfl rfl rfl rfl (fun H hM => (yMove (v := .slice _ _ _) rfl rfl)) ?_
          refine lexQ rfl rfl rfl rfl (fun H hM => (yMove (v := .int _ _) rfl rfl)) ?_
          refine lexQ rfl rfl rfl rfl (fun H hM => (yIdxP rfl Try.underlying22 Try.sizeOf42 rfl rfl ep rfl hk)) ?_
          refine lexQ rfl rfl rfl rfl (fun H hM => (yLoadC (cs := eTm.F (woutT l id)[k]) rfl Try.underlying42 rfl Try.sizeOf42 rfl (fun j u hu => hM.ext.cell (hp j u hu)))) ?_
          refine lexQ rfl rfl rfl rfl (fun H hM => (yLoadB (h9.ext hM.ext) rfl Try.underlying42 rfl Try.sizeOf42 rfl)) ?_
          -- tail
          refine lexNil0 rfl (fun hM => ?_)
          -- e slot 44: call F24<farandole/farandoleref49.before> t42 t43
          refine seqE rfl rfl (stepCall rfl Try.call24 rfl ?_)
          refine (rBefore_c (woutT l id)[k] (a, id) _).mono ?_
          rintro v Hb ⟨rfl, xb⟩
          have sb := xb.size
          replace h9 := h9.ext xb
          replace ow := ow.ext xb
          replace hE := hE.trans xb
          replace hMb : ∀ b ∈ (Value.slice VA ((woutT l id).take k).length vc).ownBlock.toList, Hs.size ≤ b ∧ b < Hb.size := fun b hb => by have := hMb b hb; omega
          refine seqQ rfl rfl (yPickT (v := .bool _) rfl rfl rfl) ?_
          refine seqNil ?_
          refine hF19 _ _ ?_; clear hF19
          -- if t45
          refine wpIf rfl (fun hb => ?_) (fun hb => ?_)
          · skip
            obtain ⟨p, ep, hp⟩ := (((Own.rd o4).2.ext xs).ext hE).at hk
            refine wpSkip ?_
            refine hF18 _ _ ?_; clear hF18
            refine wpBlock ?_
            refine wpSeq fun F20 hF20 => ?_
            refine wpRegion ?_
            refine seqQ rfl rfl (yMove (v := .slice _ _ _) rfl rfl) ?_
            refine seqQ rfl rfl (yMove (v := .slice _ _ _) rfl rfl) ?_
            refine seqQ rfl rfl (yMove (v := .int _ _) rfl rfl) ?_
            refine seqQ rfl rfl (yIdxP rfl Try.underlying22 Try.sizeOf42 rfl rfl ep rfl hk) ?_
            refine seqQ rfl rfl (yLoadC (cs := eTm.F (woutT l id)[k]) rfl Try.underlying42 rfl Try.sizeOf42 rfl hp) ?_
            refine seqN rfl rfl (nBuildSliceN (vs := [.agg _]) rfl Try.underlying22 Try.sizeOf42 Try.zeroValue42 rfl rfl rfl rfl rfl) (fun g51 H51 hx51 hB51 hg51 hl51 => ?_)
            -- e slot 52: builtin append t46 t51 : [22, 22]
            refine seqE rfl rfl (stepApp (c := eTm) (ow.ext hx51) rfl Try.underlying22 elem_eTmr rfl (by omega) rfl rfl rfl (Blk.rd (c := eTm) (l := [(woutT l id)[k]]) hB51) (by rw [List.length_take, List.length_singleton]; omega) (by have := hx51.size; omega) ?_)
            intro v' Ha oa ga
            obtain ⟨VA', vc', rfl, -⟩ := oa.form
            have xa := (hE.trans hx51).mine ga.1 (fun b hb => (hMb _ hb).1)
            refine seqQ rfl rfl (yAssign (v := .slice _ _ _) rfl rfl) ?_
            refine seqNil ?_
            refine hF20 _ _ ?_; clear hF20
            refine wpRegion ?_
            refine seqQ rfl rfl (yMove (v := .int _ _) rfl rfl) ?_
            refine seqQ rfl rfl (yAdd rfl rfl rfl (by unfold In64; omega)) ?_
            refine seqQ rfl rfl (yAssign (v := .int _ _) rfl rfl) ?_
            refine seqNil ?_
            -- end loop
            refine loopEnd (k + 1, _) (by repeat (first | (with_reducible exact Agree.refl _ _) | refine Agree.upd ?_ rfl | refine Agree.over ?_ rfl)) (by dsimp only; omega) ⟨rfl, rfl, trivial⟩ ⟨hk, fun j hj hjk => ?_, ?_, xa⟩
            · by_cases e : j = k
              · subst e
                exact hb
              · exact hlo j hj (by dsimp only at hjk; omega)
            · dsimp only
              rw [List.take_succ_eq_append_getElem hk]
              exact oa
          · skip
            have hhi : ∀ (j : Nat) (hj : j < (woutT l id).length), k ≤ j → ¬ befT (woutT l id)[j] (a, id) := fun j hj hkj hbj => hb (srt_mono (hv.sub (woutT_sub l id)).srt k j hk hj hkj hbj)
            have hk := Nat.le_of_lt hk
            have hkw : k ≤ (woutT l id).length := hk
            have ei := insT_at hkw hlo hhi
            have e6 := setT_ok hv ho (show ¬ 300 ≤ (woutT l id).length by omega)
            refine wpExit ?_
            refine hF17 _ _ ?_; clear hF17
            refine wpSeq fun F21 hF21 => ?_
            refine wpRegionD Try_mixed [.q, .q, .n, .e, .q, .q, .q, .e, .q, .q] 7 [0, 0, 2, 7, 0, 0, 48, 127, 255, 511] (Value.slice VA ((woutT l id).take k).length vc).ownBlock.toList (by kernel_rfl) _ rfl [0, 1, 2, 3, 4, 5, 6] rfl (fun b hb => (hMb b hb).2) ?_
            refine lexQ rfl rfl rfl rfl (fun H hM => (yMove (v := .slice _ _ _) rfl rfl)) ?_
            refine lexQ rfl rfl rfl rfl (fun H hM => (yLoadB (h9.keep hM (fun hm => by have := (hMb _ hm).1; omega)) rfl Try.underlying42 rfl Try.sizeOf42 rfl)) ?_
            refine lexNB rfl rfl rfl rfl (nBuildSliceN (vs := [.agg _]) rfl Try.underlying22 Try.sizeOf42 Try.zeroValue42 rfl rfl rfl rfl rfl) (fun g57 hg57 hne57 => ?_)
            -- e slot 58: builtin append t55 t57 : [22, 22]
            refine lexE rfl rfl rfl rfl (fun H58 hX58 hM58 hN58 => stepApp (c := eTm) (ow.ext hX58) rfl Try.underlying22 elem_eTmr rfl (by omega) rfl rfl rfl (Blk.rd (c := eTm) (l := [(a, id)]) (Made.blk hN58 (.head _) rfl)) (by rw [List.length_take, List.length_singleton]; omega) (by have := hX58.size; omega) ?_)
            intro v1 H6 o6 gr1
            refine lexGrew gr1 (fun g e => by rw [Option.mem_toList]; exact e) (fun b hb => by have := (hMb b hb).2; have := hX58.size; omega) (fun g e => (o6.lt g e).2) ?_
            obtain ⟨V1, c1, rfl, -⟩ := o6.form
            have x6 : Ext Hs H6 := (hE.trans hX58).mine gr1.1 (fun b hb => (hMb _ hb).1)
            refine lexQ rfl rfl rfl rfl (fun H hM => (yMove (v := .slice _ _ _) rfl rfl)) ?_
            refine lexQ rfl rfl rfl rfl (fun H hM => (yMove (v := .int _ _) rfl rfl)) ?_
            refine lexQ rfl rfl rfl rfl (fun H hM => (ySliceL rfl Try.underlying22 Try.sizeOf42 rfl rfl rfl hkw)) ?_
            -- tail
            refine lexNil (fun Hf hXf hMf hNf => ?_)
            have xf := x6.trans hXf
            have rdr := (((Own.rd o4).2.ext ((xs.trans xf))).drop (k := k) (cap := c4) hlc)
            have hdl : ((woutT l id).drop k).length = (woutT l id).length - k := List.length_drop
            -- e slot 62: builtin append t58 t61 : [22, 22]
            refine seqE rfl rfl (stepApp (c := eTm) (o6.ext hXf) rfl Try.underlying22 elem_eTmr rfl (by omega) rfl rfl hdl.symm rdr (by rw [hdl, List.length_append, List.length_take, List.length_singleton]; omega) xf.size ?_)
            intro v2 H7 o7 gr2
            obtain ⟨V2, c2, rfl, -⟩ := o7.form
            have x7 : Ext Hs H7 := gr2.ext xf (fun g e => (o6.lt g e).1)
            have er : (woutT l id).take k ++ [(a, id)] ++ (woutT l id).drop k = insT (woutT l id) (a, id) := by rw [← ei]; simp
            rw [er] at o7 ⊢
            refine seqQ rfl rfl (yAssign (v := .slice _ _ _) rfl rfl) ?_
            refine seqQ rfl rfl (yAssign (v := .int _ _) rfl rfl) ?_
            refine seqNil ?_
            refine hF21 _ _ ?_; clear hF21
            -- ret
            refine wpRet (fin2 (v := .slice _ _ _) (v' := .int _ _) rfl rfl rfl ?_)
            rw [e6]
            exact ⟨V2, c2, rfl, (Own.rd o7).2, (x14.trans xs).trans x7⟩
        · skip
          have hhi : ∀ (j : Nat) (hj : j < (woutT l id).length), k ≤ j → ¬ befT (woutT l id)[j] (a, id) := fun j hj hkj => absurd hkj (by dsimp only at hlt; omega)
          refine lexU rfl rfl rfl ?_
          refine lexU rfl rfl rfl ?_
          refine lexU rfl rfl rfl ?_
          refine lexU rfl rfl rfl ?_
          refine lexU rfl rfl rfl ?_
          -- tail
          refine lexNil0 rfl (fun hM => ?_)
          refine seqU rfl rfl ?_
          refine seqQ rfl rfl (yPickF (v := .bool _) rfl rfl rfl) ?_
          refine seqNil ?_
          refine hF19 _ _ ?_; clear hF19
          -- if t45
          refine wpF rfl ?_
          have hkw : k ≤ (woutT l id).length := hk
          have ei := insT_at hkw hlo hhi
          have e6 := setT_ok hv ho (show ¬ 300 ≤ (woutT l id).length by omega)
          refine wpExit ?_
          refine hF17 _ _ ?_; clear hF17
          refine wpSeq fun F22 hF22 => ?_
          refine wpRegionD Try_mixed [.q, .q, .n, .e, .q, .q, .q, .e, .q, .q] 7 [0, 0, 2, 7, 0, 0, 48, 127, 255, 511] (Value.slice VA ((woutT l id).take k).length vc).ownBlock.toList (by kernel_rfl) _ rfl [0, 1, 2, 3, 4, 5, 6] rfl (fun b hb => (hMb b hb).2) ?_
          refine lexQ rfl rfl rfl rfl (fun H hM => (yMove (v := .slice _ _ _) rfl rfl)) ?_
          refine lexQ rfl rfl rfl rfl (fun H hM => (yLoadB (h9.keep hM (fun hm => by have := (hMb _ hm).1; omega)) rfl Try.underlying42 rfl Try.sizeOf42 rfl)) ?_
          refine lexNB rfl rfl rfl rfl (nBuildSliceN (vs := [.agg _]) rfl Try.underlying22 Try.sizeOf42 Try.zeroValue42 rfl rfl rfl rfl rfl) (fun g57 hg57 hne57 => ?_)
          -- e slot 58: builtin append t55 t57 : [22, 22]
          refine lexE rfl rfl rfl rfl (fun H58 hX58 hM58 hN58 => stepApp (c := eTm) (ow.ext hX58) rfl Try.underlying22 elem_eTmr rfl (by omega) rfl rfl rfl (Blk.rd (c := eTm) (l := [(a, id)]) (Made.blk hN58 (.head _) rfl)) (by rw [List.length_take, List.length_singleton]; omega) (by have := hX58.size; omega) ?_)
          intro v1 H6 o6 gr1
          refine lexGrew gr1 (fun g e => by rw [Option.mem_toList]; exact e) (fun b hb => by have := (hMb b hb).2; have := hX58.size; omega) (fun g e => (o6.lt g e).2) ?_
          obtain ⟨V1, c1, rfl, -⟩ := o6.form
          have x6 : Ext Hs H6 := (hE.trans hX58).mine gr1.1 (fun b hb => (hMb _ hb).1)
          refine lexQ rfl rfl rfl rfl (fun H hM => (yMove (v := .slice _ _ _) rfl rfl)) ?_
          refine lexQ rfl rfl rfl rfl (fun H hM => (yMove (v := .int _ _) rfl rfl)) ?_
          refine lexQ rfl rfl rfl rfl (fun H hM => (ySliceL rfl Try.underlying22 Try.sizeOf42 rfl rfl rfl hkw)) ?_
          -- tail
          refine lexNil (fun Hf hXf hMf hNf => ?_)
          have xf := x6.trans hXf
          have rdr := (((Own.rd o4).2.ext ((xs.trans xf))).drop (k := k) (cap := c4) hlc)
          have hdl : ((woutT l id).drop k).length = (woutT l id).length - k := List.length_drop
          -- e slot 62: builtin append t58 t61 : [22, 22]
          refine seqE rfl rfl (stepApp (c := eTm) (o6.ext hXf) rfl Try.underlying22 elem_eTmr rfl (by omega) rfl rfl hdl.symm rdr (by rw [hdl, List.length_append, List.length_take, List.length_singleton]; omega) xf.size ?_)
          intro v2 H7 o7 gr2
          obtain ⟨V2, c2, rfl, -⟩ := o7.form
          have x7 : Ext Hs H7 := gr2.ext xf (fun g e => (o6.lt g e).1)
          have er : (woutT l id).take k ++ [(a, id)] ++ (woutT l id).drop k = insT (woutT l id) (a, id) := by rw [← ei]; simp
          rw [er] at o7 ⊢
          refine seqQ rfl rfl (yAssign (v := .slice _ _ _) rfl rfl) ?_
          refine seqQ rfl rfl (yAssign (v := .int _ _) rfl rfl) ?_
          refine seqNil ?_
          refine hF22 _ _ ?_; clear hF22
          -- ret
          refine wpRet (fin2 (v := .slice _ _ _) (v' := .int _ _) rfl rfl rfl ?_)
          rw [e6]
          exact ⟨V2, c2, rfl, (Own.rd o7).2, (x14.trans xs).trans x7⟩
end Go.Proofs.Ytbicgjleomkhdaa
