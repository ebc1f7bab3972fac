/- Package timer: what Set, Cancel and Expire return. -/
import Derived.Test.YtbicgjleomkhdaaT5
namespace Go.Proofs.Ytbicgjleomkhdaa
open Go.RowKit

set_option maxRecDepth 100000 in
theorem setT_bad {t : List Tm} {id a : Int} (h : ¬ ValidT t) : setT t id a = (1, []) := if_pos h
set_option maxRecDepth 100000 in
theorem setT_range {t : List Tm} {id a : Int} (h : ValidT t) (h2 : ¬ okT (a, id)) : setT t id a = (2, []) := by
  unfold setT
  rw [if_neg (fun hn => hn h), if_pos h2]
set_option maxRecDepth 100000 in
theorem setT_full {t : List Tm} {id a : Int} (h : ValidT t) (h2 : okT (a, id)) (h3 : 300 ≤ (woutT t id).length) : setT t id a = (6, []) := by
  unfold setT
  rw [if_neg (fun hn => hn h), if_neg (fun hn => hn h2), if_pos h3]
set_option maxRecDepth 100000 in
theorem setT_ok {t : List Tm} {id a : Int} (h : ValidT t) (h2 : okT (a, id)) (h3 : ¬ 300 ≤ (woutT t id).length) : setT t id a = (0, insT (woutT t id) (a, id)) := by
  unfold setT
  rw [if_neg (fun hn => hn h), if_neg (fun hn => hn h2), if_neg h3]
set_option maxRecDepth 100000 in
theorem srt_mono {l : List Tm} {x : Tm} (h : l.Pairwise befT) : ∀ (i j : Nat) (hi : i < l.length) (hj : j < l.length), i ≤ j → befT l[j] x → befT l[i] x := fun i j hi hj hij hb => by
  rcases Nat.lt_or_eq_of_le hij with h' | h'
  · exact befT_trans (List.pairwise_iff_getElem.1 h i j hi hj h') hb
  · subst h'
    exact hb
set_option maxRecDepth 100000 in
theorem set_c (A : Option Addr) (c : Nat) (l : List Tm) (id a : Int) (H : Heap) (hA : Rd eTm H A l) (hl : l.length ≤ 100000) :
    CallsH Try.prog 19 [.slice A l.length c, .int .i64 id, .int .i64 a] H fun v H' => ∃ (V : Option Addr) (vc : Nat), v = .tuple #[.slice V (setT l id a).2.length vc, .int .i64 (setT l id a).1] ∧ Own eTm 58 H' H.size (.slice V (setT l id a).2.length vc) (setT l id a).2 ∧ Ext H H' := by
  refine callsH_of Try.func19 rfl Try.ntmps19 (Nat.le_of_ble_eq_true rfl) ?_
  refine wpSeq fun F1 hF1 => ?_
  refine wpRegion ?_
  refine seqQ rfl rfl (yAssign (v := .slice _ _ _) rfl rfl) ?_
  refine seqQ rfl rfl (yAssign (v := .int _ _) rfl rfl) ?_
  refine seqNil ?_
  refine hF1 _ _ ?_; clear hF1
  refine wpSeq fun F2 hF2 => ?_
  refine wpRegion ?_
  refine seqQ rfl rfl (yMove (v := .int _ _) rfl rfl) ?_
  refine seqQ rfl rfl (yMove (v := .int _ _) rfl rfl) ?_
  refine seqQ rfl rfl (yBuild (pl := [(0, 1), (1, 1)]) (vs := [(0, .int _ _), (1, .int _ _)]) rfl Try.underlying58 Try.zeroValue58 rfl (by unfold Places; kernel_rfl) rfl rfl) ?_
  refine seqN rfl rfl (nAlloc rfl Try.zeroValue58 rfl) (fun g8 H8 hx8 hB8 hg8 hl8 => ?_)
  -- e slot None: store T58 t8 t14
  refine seqE0 rfl rfl (stepStoreB rfl (by kernel_rfl) rfl rfl rfl hB8 rfl ?_)
  intro H1 h8 hK1
  have x1 : Ext H H1 := hx8.mine hK1 (by simp; omega)
  replace h8 : Blk H1 g8 (eTm.F (a, id)) 58 := h8
  have gl := h8.lt
  clear hB8 hx8 hK1
  refine seqNil ?_
  refine hF2 _ _ ?_; clear hF2
  refine wpSeq fun F3 hF3 => ?_
  refine wpBlock ?_
  refine wpSeq fun F4 hF4 => ?_
  refine wpRegion ?_
  refine seqQ rfl rfl (yMove (v := .slice _ _ _) rfl rfl) ?_
  -- e slot 17: call F18<farandole/timer.Valid> t16
  refine seqE rfl rfl (stepCall rfl Try.call18 rfl ?_)
  refine (tValid_c A c l H1 (hA.ext x1) (by omega)).mono ?_
  rintro v H2 ⟨rfl, x2⟩
  replace h8 := h8.ext x2
  have x12 := x1.trans x2
  clear x1 x2
  refine seqQ rfl rfl (yNot rfl rfl) ?_
  refine seqQ rfl rfl (yAssign (v := .bool _) rfl rfl) ?_
  refine seqNil ?_
  refine hF4 _ _ ?_; clear hF4
  -- if t15
  refine wpCond rfl (fun hv => ?_) (fun hv => ?_)
  · skip
    have hv : ¬ ValidT l := by simpa using hv
    refine wpSeq fun F5 hF5 => ?_
    refine wpRegion ?_
    refine seqQ rfl rfl (yAssign (v := .slice _ _ _) rfl rfl) ?_
    refine seqQ rfl rfl (yAssign (v := .int _ _) rfl rfl) ?_
    refine seqNil ?_
    refine hF5 _ _ ?_; clear hF5
    -- ret
    refine wpRet (fin2 (v := .slice _ _ _) (v' := .int _ _) rfl rfl rfl ?_)
    rw [setT_bad hv]
    exact ⟨none, 0, rfl, Own.nil _ _, x12⟩
  · skip
    have hv : ValidT l := by simpa using hv
    refine wpSeq fun F6 hF6 => ?_
    refine wpRegion ?_
    refine seqQ rfl rfl (yLoadB h8 rfl Try.underlying58 rfl Try.sizeOf58 rfl) ?_
    -- e slot 21: call F26<farandole/timer.proper> t20
    refine seqE rfl rfl (stepCall rfl Try.call26 rfl ?_)
    refine (proper_c (a, id) H2).mono ?_
    rintro v H3 ⟨rfl, x3⟩
    replace h8 := h8.ext x3
    have x13 := x12.trans x3
    clear x12 x3
    refine seqQ rfl rfl (yNot rfl rfl) ?_
    refine seqQ rfl rfl (yAssign (v := .bool _) rfl rfl) ?_
    refine seqNil ?_
    refine hF6 _ _ ?_; clear hF6
    -- if t19
    refine wpCond rfl (fun ho => ?_) (fun ho => ?_)
    · skip
      have ho : ¬ okT (a, id) := by simpa using ho
      refine wpSeq fun F7 hF7 => ?_
      refine wpRegion ?_
      refine seqQ rfl rfl (yAssign (v := .slice _ _ _) rfl rfl) ?_
      refine seqQ rfl rfl (yAssign (v := .int _ _) rfl rfl) ?_
      refine seqNil ?_
      refine hF7 _ _ ?_; clear hF7
      -- ret
      refine wpRet (fin2 (v := .slice _ _ _) (v' := .int _ _) rfl rfl rfl ?_)
      rw [setT_range hv ho]
      exact ⟨none, 0, rfl, Own.nil _ _, x13⟩
    · skip
      have ho : okT (a, id) := by simpa using ho
      refine wpSkip ?_
      refine hF3 _ _ ?_; clear hF3
      refine wpSeq fun F8 hF8 => ?_
      refine wpRegion ?_
      refine seqQ rfl rfl (yMove (v := .slice _ _ _) rfl rfl) ?_
      refine seqQ rfl rfl (yMove (v := .int _ _) rfl rfl) ?_
      -- e slot 25: call F28<farandole/timer.without> t23 t24
      refine seqE rfl rfl (stepCall rfl Try.call28 rfl ?_)
      refine (wout_c A c l id H3 (hA.ext x13) (by omega)).mono ?_
      rintro v H4 ⟨o4, x4⟩
      obtain ⟨V4, c4, rfl, hlc, -⟩ := o4.form
      have z4 := x4.size
      replace h8 := h8.ext x4
      have x14 := x13.trans x4
      have z13 := x13.size
      have hwl := woutT_len l id
      have hl3 := hv.2
      clear x13 x4
      refine seqQ rfl rfl (yAssign (v := .slice _ _ _) rfl rfl) ?_
      refine seqNil ?_
      refine hF8 _ _ ?_; clear hF8
      refine wpSeq fun F9 hF9 => ?_
      refine wpSeq fun F10 hF10 => ?_
      refine wpRegion ?_
      refine seqQ rfl rfl (yMove (v := .slice _ _ _) rfl rfl) ?_
      refine seqQ rfl rfl (yLen rfl Try.underlying26 rfl) ?_
      refine seqQ rfl rfl (yEql rfl rfl rfl) ?_
      refine seqNil ?_
      refine hF10 _ _ ?_; clear hF10
      -- if t28
      refine wpIf rfl (fun hf => ?_) (fun hf => ?_)
      · skip
        refine wpSeq fun F11 hF11 => ?_
        refine wpRegion ?_
        refine seqQ rfl rfl (yAssign (v := .slice _ _ _) rfl rfl) ?_
        refine seqQ rfl rfl (yAssign (v := .int _ _) rfl rfl) ?_
        refine seqNil ?_
        refine hF11 _ _ ?_; clear hF11
        -- ret
        refine wpRet (fin2 (v := .slice _ _ _) (v' := .int _ _) rfl rfl rfl ?_)
        rw [setT_full hv ho (by omega)]
        exact ⟨none, 0, rfl, Own.nil _ _, x14⟩
      · skip
        refine wpSkip ?_
        refine hF9 _ _ ?_; clear hF9
        refine wpSeq fun F12 hF12 => ?_
        refine wpRegion ?_
        refine seqQ rfl rfl (yMove (v := .slice _ _ _) rfl rfl) ?_
        refine seqQ rfl rfl (yLoadB h8 rfl Try.underlying58 rfl Try.sizeOf58 rfl) ?_
        -- e slot 32: call F29<slices.BinarySearchFunc[farandole/timer.Table,farandole/timer.Timer,farandole/timer.Timer]> t30 t31 F27
        refine seqE rfl rfl (stepCall rfl Try.call29 rfl ?_)
        refine (bsT_c V4 c4 (woutT l id) (a, id) H4 (Own.rd o4).2 (by omega) (srt_mono (hv.sub (woutT_sub l id)).srt)).mono ?_
        rintro v H5 ⟨k, b, rfl, hk, hlo, hhi, x5⟩
        have ei := insT_at hk hlo hhi
        replace h8 := h8.ext x5
        have z5 := x5.size
        refine seqQ rfl rfl (yMove (v := .tuple _) rfl rfl) ?_
        refine seqQ rfl rfl (yExtract (v := .int _ _) rfl rfl rfl) ?_
        refine seqQ rfl rfl (yExtract (v := .bool _) rfl rfl rfl) ?_
        refine seqQ rfl rfl (yAssign (v := .int _ _) rfl rfl) ?_
        refine seqQ rfl rfl (yAssign (v := .bool _) rfl rfl) ?_
        refine seqNil ?_
        refine hF12 _ _ ?_; clear hF12
        refine wpSeq fun F13 hF13 => ?_
        refine wpRegion ?_
        refine seqQ rfl rfl (yMove (v := .slice _ _ _) rfl rfl) ?_
        refine seqQ rfl rfl (yMove (v := .int _ _) rfl rfl) ?_
        refine seqQ rfl rfl (yLoadB h8 rfl Try.underlying58 rfl Try.sizeOf58 rfl) ?_
        refine seqN rfl rfl (nBuildSliceN (vs := [.agg _]) rfl Try.underlying25 Try.sizeOf58 Try.zeroValue58 rfl rfl rfl rfl rfl) (fun g38 H38 hx38 hB38 hg38 hl38 => ?_)
        -- e slot 39: call F30<slices.Insert[farandole/timer.Table,farandole/timer.Timer]> t35 t36 t38
        refine seqE rfl rfl (stepCall rfl Try.call30 rfl ?_)
        refine (insert_tm _ (woutT l id) k (a, id) g38 H3.size H38 (by have := hx38.size; omega) ((o4.ext x5).ext hx38) hB38 (fun e => by have := (o4.lt _ e).2; omega) hk (by omega)).mono ?_
        rintro v H6 ⟨o6, gr⟩
        rw [ei] at o6
        obtain ⟨V6, c6, rfl, -⟩ := o6.form
        have e6 := setT_ok hv ho (show ¬ 300 ≤ (woutT l id).length by omega)
        refine seqQ rfl rfl (yAssign (v := .slice _ _ _) rfl rfl) ?_
        refine seqQ rfl rfl (yAssign (v := .int _ _) rfl rfl) ?_
        refine seqNil ?_
        refine hF13 _ _ ?_; clear hF13
        -- ret
        refine wpRet (fin2 (v := .slice _ _ _) (v' := .int _ _) rfl rfl rfl ?_)
        rw [e6]
        exact ⟨V6, c6, rfl, o6.mono z13, gr.ext ((x14.trans x5).trans hx38) (fun g e => by have := (o4.lt g e).1; omega)⟩
set_option maxRecDepth 100000 in
theorem cancelT_bad {t : List Tm} {id : Int} (h : ¬ ValidT t) : cancelT t id = (1, []) := if_pos h
set_option maxRecDepth 100000 in
theorem cancelT_none {t : List Tm} {id : Int} (h : ValidT t) (h2 : (woutT t id).length = t.length) : cancelT t id = (8, []) := by
  unfold cancelT
  rw [if_neg (fun hn => hn h), if_pos h2]
set_option maxRecDepth 100000 in
theorem cancelT_ok {t : List Tm} {id : Int} (h : ValidT t) (h2 : ¬ (woutT t id).length = t.length) : cancelT t id = (0, woutT t id) := by
  unfold cancelT
  rw [if_neg (fun hn => hn h), if_neg h2]
set_option maxRecDepth 100000 in
theorem find_wout (t : List Tm) (id : Int) : (findT t id).2 = decide (¬ (woutT t id).length = t.length) := by
  by_cases h : ∃ (i : Nat) (hi : i < t.length), t[i].2 = id
  · obtain ⟨i, hi, he⟩ := h
    have h1 : t.find? (fun x => decide (x.2 = id)) ≠ none := fun hn => by
      rw [List.find?_eq_none] at hn
      exact hn _ (List.getElem_mem hi) (by simpa using he)
    have h2 : ¬ (woutT t id).length = t.length := fun e => by
      have := List.filter_eq_self.1 ((woutT_sub t id).eq_of_length e) _ (List.getElem_mem hi)
      simp at this
      exact this he
    rw [decide_eq_true h2]
    unfold findT
    cases hf : t.find? (fun x => decide (x.2 = id)) with
    | none => exact absurd hf h1
    | some x => rfl
  · have hn : ∀ (i : Nat) (hi : i < t.length), t[i].2 ≠ id := fun i hi he => h ⟨i, hi, he⟩
    rw [findT_none hn, woutT_all hn]
    simp
set_option maxRecDepth 100000 in
theorem cancel_c (A : Option Addr) (c : Nat) (l : List Tm) (id : Int) (H : Heap) (hA : Rd eTm H A l) (hl : l.length ≤ 100000) :
    CallsH Try.prog 21 [.slice A l.length c, .int .i64 id] H fun v H' => ∃ (V : Option Addr) (vc : Nat), v = .tuple #[.slice V (cancelT l id).2.length vc, .int .i64 (cancelT l id).1] ∧ Own eTm 58 H' H.size (.slice V (cancelT l id).2.length vc) (cancelT l id).2 ∧ Ext H H' := by
  refine callsH_of Try.func21 rfl Try.ntmps21 (Nat.le_of_ble_eq_true rfl) ?_
  refine wpSeq fun F1 hF1 => ?_
  refine wpRegion ?_
  refine seqQ rfl rfl (yAssign (v := .slice _ _ _) rfl rfl) ?_
  refine seqQ rfl rfl (yAssign (v := .int _ _) rfl rfl) ?_
  refine seqNil ?_
  refine hF1 _ _ ?_; clear hF1
  refine wpSeq fun F2 hF2 => ?_
  refine wpSeq fun F3 hF3 => ?_
  refine wpRegion ?_
  refine seqQ rfl rfl (yMove (v := .slice _ _ _) rfl rfl) ?_
  -- e slot 9: call F18<farandole/timer.Valid> t8
  refine seqE rfl rfl (stepCall rfl Try.call18 rfl ?_)
  refine (tValid_c A c l H hA (by omega)).mono ?_
  rintro v H2 ⟨rfl, x2⟩
  refine seqQ rfl rfl (yNot rfl rfl) ?_
  refine seqNil ?_
  refine hF3 _ _ ?_; clear hF3
  -- if t10
  refine wpCond rfl (fun hv => ?_) (fun hv => ?_)
  · skip
    have hv : ¬ ValidT l := by simpa using hv
    refine wpSeq fun F4 hF4 => ?_
    refine wpRegion ?_
    refine seqQ rfl rfl (yAssign (v := .slice _ _ _) rfl rfl) ?_
    refine seqQ rfl rfl (yAssign (v := .int _ _) rfl rfl) ?_
    refine seqNil ?_
    refine hF4 _ _ ?_; clear hF4
    -- ret
    refine wpRet (fin2 (v := .slice _ _ _) (v' := .int _ _) rfl rfl rfl ?_)
    rw [cancelT_bad hv]
    exact ⟨none, 0, rfl, Own.nil _ _, x2⟩
  · skip
    have hv : ValidT l := by simpa using hv
    refine wpSkip ?_
    refine hF2 _ _ ?_; clear hF2
    refine wpSeq fun F5 hF5 => ?_
    refine wpSeq fun F6 hF6 => ?_
    refine wpRegion ?_
    refine seqQ rfl rfl (yMove (v := .slice _ _ _) rfl rfl) ?_
    refine seqQ rfl rfl (yMove (v := .int _ _) rfl rfl) ?_
    -- e slot 14: call F23<farandole/timer.Find> t12 t13
    refine seqE rfl rfl (stepCall rfl Try.call23 rfl ?_)
    refine (tFind_c A c l id H2 (hA.ext x2) (by omega)).mono ?_
    rintro v H3 ⟨rfl, x3⟩
    rw [find_wout]
    refine seqQ rfl rfl (yMove (v := .tuple _) rfl rfl) ?_
    refine seqQ rfl rfl (yExtract (v := .int _ _) rfl rfl rfl) ?_
    refine seqQ rfl rfl (yExtract (v := .bool _) rfl rfl rfl) ?_
    refine seqQ rfl rfl (yAssign (v := .int _ _) rfl rfl) ?_
    refine seqQ rfl rfl (yAssign (v := .bool _) rfl rfl) ?_
    refine seqNil ?_
    refine hF6 _ _ ?_; clear hF6
    refine wpSeq fun F7 hF7 => ?_
    refine wpRegion ?_
    refine seqQ rfl rfl (yMove (v := .bool _) rfl rfl) ?_
    refine seqQ rfl rfl (yNot rfl rfl) ?_
    refine seqNil ?_
    refine hF7 _ _ ?_; clear hF7
    -- if t18
    refine wpCond rfl (fun hn => ?_) (fun hn => ?_)
    · skip
      have hn : (woutT l id).length = l.length := by simpa using hn
      refine wpSeq fun F8 hF8 => ?_
      refine wpRegion ?_
      refine seqQ rfl rfl (yAssign (v := .slice _ _ _) rfl rfl) ?_
      refine seqQ rfl rfl (yAssign (v := .int _ _) rfl rfl) ?_
      refine seqNil ?_
      refine hF8 _ _ ?_; clear hF8
      -- ret
      refine wpRet (fin2 (v := .slice _ _ _) (v' := .int _ _) rfl rfl rfl ?_)
      rw [cancelT_none hv hn]
      exact ⟨none, 0, rfl, Own.nil _ _, x2.trans x3⟩
    · skip
      have hn : ¬ (woutT l id).length = l.length := by simpa using hn
      refine wpSkip ?_
      refine hF5 _ _ ?_; clear hF5
      refine wpSeq fun F9 hF9 => ?_
      refine wpRegion ?_
      refine seqQ rfl rfl (yMove (v := .slice _ _ _) rfl rfl) ?_
      refine seqQ rfl rfl (yMove (v := .int _ _) rfl rfl) ?_
      -- e slot 21: call F28<farandole/timer.without> t19 t20
      refine seqE rfl rfl (stepCall rfl Try.call28 rfl ?_)
      refine (wout_c A c l id H3 ((hA.ext x2).ext x3) (by omega)).mono ?_
      rintro v H4 ⟨o4, x4⟩
      obtain ⟨V4, c4, rfl, hlc, -⟩ := o4.form
      refine seqQ rfl rfl (yAssign (v := .slice _ _ _) rfl rfl) ?_
      refine seqQ rfl rfl (yAssign (v := .int _ _) rfl rfl) ?_
      refine seqNil ?_
      refine hF9 _ _ ?_; clear hF9
      -- ret
      refine wpRet (fin2 (v := .slice _ _ _) (v' := .int _ _) rfl rfl rfl ?_)
      rw [cancelT_ok hv hn]
      exact ⟨V4, c4, rfl, o4.mono (by have := x2.size; have := x3.size; omega), (x2.trans x3).trans x4⟩
set_option maxRecDepth 100000 in
theorem expT_bad {t : List Tm} {now : Int} (h : ¬ ValidT t) : expT t now = ([], []) := if_pos h
set_option maxRecDepth 100000 in
theorem expT_ok {t : List Tm} {now : Int} (h : ValidT t) : expT t now = (t.dropWhile (fun x => decide (x.1 ≤ now)), (t.takeWhile (fun x => decide (x.1 ≤ now))).map (·.2)) := if_neg fun hn => hn h
set_option maxRecDepth 100000 in
theorem expT_at {t : List Tm} {now : Int} {k : Nat} (h : ValidT t) (hk : k ≤ t.length) (h1 : ∀ (j : Nat) (hj : j < t.length), j < k → t[j].1 ≤ now) (h2 : ∀ (j : Nat) (hj : j < t.length), j = k → now < t[j].1) : expT t now = (t.drop k, (t.take k).map (·.2)) := by
  obtain ⟨e1, e2⟩ := tw_take (fun x : Tm => decide (x.1 ≤ now)) t k hk (fun j hj hjk => decide_eq_true (h1 j hj hjk)) (fun j hj hjk => decide_eq_false (by have := h2 j hj hjk; omega))
  rw [expT_ok h, e1, e2]
set_option maxRecDepth 100000 in
theorem expire_c (A : Option Addr) (c : Nat) (l : List Tm) (now : Int) (H : Heap) (hA : Rd eTm H A l) (hl : l.length ≤ 100000) (hlc : l.length ≤ c) :
    CallsH Try.prog 10 [.slice A l.length c, .int .i64 now] H fun v H' => ∃ (V : Option Addr) (vc : Nat) (W : Option Addr) (wc : Nat), v = .tuple #[.slice V (expT l now).1.length vc, .slice W (expT l now).2.length wc] ∧ Own eTm 58 H' H.size (.slice V (expT l now).1.length vc) (expT l now).1 ∧ Own eInt 3 H' H.size (.slice W (expT l now).2.length wc) (expT l now).2 ∧ Ext H H' := by
  refine callsH_of Try.func10 rfl Try.ntmps10 (Nat.le_of_ble_eq_true rfl) ?_
  refine wpSeq fun F1 hF1 => ?_
  refine wpRegion ?_
  refine seqQ rfl rfl (yAssign (v := .slice _ _ _) rfl rfl) ?_
  refine seqQ rfl rfl (yAssign (v := .slice _ _ _) rfl rfl) ?_
  refine seqNil ?_
  refine hF1 _ _ ?_; clear hF1
  refine wpSeq fun F2 hF2 => ?_
  refine wpSeq fun F3 hF3 => ?_
  refine wpRegion ?_
  refine seqQ rfl rfl (yMove (v := .slice _ _ _) rfl rfl) ?_
  -- e slot 10: call F18<farandole/timer.Valid> t9
  refine seqE rfl rfl (stepCall rfl Try.call18 rfl ?_)
  refine (tValid_c A c l H hA (by omega)).mono ?_
  rintro v H2 ⟨rfl, x2⟩
  refine seqQ rfl rfl (yNot rfl rfl) ?_
  refine seqNil ?_
  refine hF3 _ _ ?_; clear hF3
  -- if t11
  refine wpCond rfl (fun hv => ?_) (fun hv => ?_)
  · skip
    have hv : ¬ ValidT l := by simpa using hv
    refine wpSeq fun F4 hF4 => ?_
    refine wpRegion ?_
    refine seqQ rfl rfl (yAssign (v := .slice _ _ _) rfl rfl) ?_
    refine seqQ rfl rfl (yAssign (v := .slice _ _ _) rfl rfl) ?_
    refine seqNil ?_
    refine hF4 _ _ ?_; clear hF4
    -- ret
    refine wpRet (fin2 (v := .slice _ _ _) (v' := .slice _ _ _) rfl rfl rfl ?_)
    rw [expT_bad hv]
    exact ⟨none, 0, none, 0, rfl, Own.nil _ _, Own.nil _ _, x2⟩
  · skip
    have hv : ValidT l := by simpa using hv
    refine wpSkip ?_
    refine hF2 _ _ ?_; clear hF2
    refine wpSeq fun F5 hF5 => ?_
    refine wpRegion ?_
    refine seqQ rfl rfl (yAssign (v := .slice _ _ _) rfl rfl) ?_
    refine seqNil ?_
    refine hF5 _ _ ?_; clear hF5
    refine wpSeq fun F6 hF6 => ?_
    refine wpSeq fun F7 hF7 => ?_
    refine wpRegion ?_
    refine seqQ rfl rfl (yMove (v := .slice _ _ _) rfl rfl) ?_
    refine seqQ rfl rfl (yLen rfl Try.underlying26 rfl) ?_
    refine seqQ rfl rfl (yMove (v := .int _ _) rfl rfl) ?_
    refine seqNil ?_
    refine hF7 _ _ ?_; clear hF7
    -- loop
    refine wpBlock ?_
    refine wpLoopS [6, 8, 14, 15, 16, 17, 18, 19, 20, 21, 22, 23, 24, 25, 26, 27] (fun x : Nat × Option Addr × Nat => [(14, .int .i64 x.1), (6, .slice x.2.1 x.1 x.2.2)]) (fun x H' => x.1 ≤ l.length ∧ (∀ (j : Nat) (hj : j < l.length), j < x.1 → l[j].1 ≤ now) ∧ Own eInt 3 H' H.size (.slice x.2.1 x.1 x.2.2) ((l.take x.1).map (·.2)) ∧ Ext H H') (fun x => l.length - x.1) (0, none, 0) ⟨rfl, rfl, trivial⟩ ⟨Nat.zero_le _, fun j _ hj => absurd hj (by dsimp only; omega), Own.nil _ _, x2⟩ ?_
    rintro ⟨k, VA, vc⟩ J H3 ⟨hk, ho, ow, hE⟩
    dsimp only at hk ho ow
    refine wpSeq fun F8 hF8 => ?_
    refine wpRegion ?_
    refine seqQ rfl rfl (yLss rfl rfl rfl) ?_
    refine seqNil ?_
    refine hF8 _ _ ?_; clear hF8
    refine wpSeq fun F9 hF9 => ?_
    -- if t15
    refine wpIf rfl (fun hlt => ?_) (fun hlt => ?_)
    · skip
      have hk : k < l.length := by dsimp only at hlt; omega
      obtain ⟨p, ep, hp⟩ := (hA.ext hE).at hk
      refine wpSkip ?_
      refine hF9 _ _ ?_; clear hF9
      refine wpSeq fun F10 hF10 => ?_
      refine wpBlock ?_
      refine wpSeq fun F11 hF11 => ?_
      refine wpRegion ?_
      refine seqQ rfl rfl (yIdxP rfl Try.underlying26 Try.sizeOf58 rfl rfl ep rfl hk) ?_
      refine seqQ rfl rfl (yLoadC (cs := eTm.F l[k]) rfl Try.underlying58 rfl Try.sizeOf58 rfl hp) ?_
      refine seqN rfl rfl (nAlloc rfl Try.zeroValue58 rfl) (fun g8 H8 hx8 hB8 hg8 hl8 => ?_)
      -- e slot None: store T58 t8 t17
      refine seqE0 rfl rfl (stepStoreB rfl (by kernel_rfl) rfl rfl rfl hB8 rfl ?_)
      intro H4 h8 hK4
      have x4 : Ext H3 H4 := hx8.mine hK4 (by simp; omega)
      clear hB8 hx8 hK4
      replace ow := ow.ext x4
      replace hE := hE.trans x4
      refine seqNil ?_
      refine hF11 _ _ ?_; clear hF11
      refine wpSeq fun F12 hF12 => ?_
      refine wpSeq fun F13 hF13 => ?_
      refine wpRegion ?_
      refine seqQ rfl rfl (yFieldAddr rfl Try.underlying58 rfl Try.sizeOf3 rfl rfl) ?_
      refine seqQ rfl rfl (yLoad rfl Try.underlying3 rfl rfl (h8.cell rfl)) ?_
      refine seqQ rfl rfl (yMove (v := .int _ _) rfl rfl) ?_
      refine seqQ rfl rfl (yGtr rfl rfl rfl) ?_
      refine seqNil ?_
      refine hF13 _ _ ?_; clear hF13
      -- if t21
      refine wpIf rfl (fun hgt => ?_) (fun hgt => ?_)
      · skip
        have ee := expT_at hv (by omega) ho (fun j hj e => by subst e; exact hgt)
        have hkc : k ≤ l.length := by omega
        have rdr := ((hA.ext hE).drop (k := k) (cap := c) hlc)
        refine wpExit ?_
        refine hF6 _ _ ?_; clear hF6
        refine wpSeq fun F14 hF14 => ?_
        refine wpRegion ?_
        refine seqQ rfl rfl (yMove (v := .slice _ _ _) rfl rfl) ?_
        refine seqQ rfl rfl (yMove (v := .slice _ _ _) rfl rfl) ?_
        refine seqQ rfl rfl (yLen rfl Try.underlying27 rfl) ?_
        refine seqQ rfl rfl (ySliceL rfl Try.underlying26 Try.sizeOf58 rfl rfl rfl hkc) ?_
        -- e slot 32: call F25<slices.Clone[farandole/timer.Table,farandole/timer.Timer]> t31
        refine seqE rfl rfl (stepCall rfl Try.call25 rfl ?_)
        have hc := tClone_c _ (c - k) (l.drop k) _ rdr (by rw [List.length_drop]; omega)
        rw [List.length_drop] at hc
        refine hc.mono ?_
        rintro v Hz ⟨oz, xz⟩
        obtain ⟨Vz, cz, rfl, -⟩ := oz.form
        refine seqQ rfl rfl (yMove (v := .slice _ _ _) rfl rfl) ?_
        refine seqQ rfl rfl (yAssign (v := .slice _ _ _) rfl rfl) ?_
        refine seqQ rfl rfl (yAssign (v := .slice _ _ _) rfl rfl) ?_
        refine seqNil ?_
        refine hF14 _ _ ?_; clear hF14
        -- ret
        refine wpRet (fin2 (v := .slice _ _ _) (v' := .slice _ _ _) rfl rfl rfl ?_)
        rw [ee]
        have hlm : ((l.take k).map (·.2)).length = k := by rw [List.length_map, List.length_take]; omega
        exact ⟨Vz, cz, VA, vc, by rw [hlm], oz.mono hE.size, by rw [hlm]; exact ow.ext xz, hE.trans xz⟩
      · skip
        refine wpSkip ?_
        refine hF12 _ _ ?_; clear hF12
        refine wpRegion ?_
        refine seqQ rfl rfl (yMove (v := .slice _ _ _) rfl rfl) ?_
        refine seqQ rfl rfl (yFieldAddr rfl Try.underlying58 rfl Try.sizeOf3 rfl rfl) ?_
        refine seqQ rfl rfl (yLoad rfl Try.underlying3 rfl rfl (h8.cell rfl)) ?_
        refine seqN rfl rfl (nBuildSlice (vs := [.int _ _]) rfl Try.underlying27 Try.sizeOf3 Try.zeroValue3 rfl rfl rfl rfl) (fun g25 H25 hx25 hB25 hg25 hl25 => ?_)
        -- e slot 26: builtin append t22 t25 : [27, 27]
        refine seqE rfl rfl (stepApp (c := eInt) (ow.ext hx25) rfl Try.underlying27 elem_eInt rfl (by omega) rfl rfl rfl (Blk.rd (c := eInt) (l := [l[k].2]) hB25) (by simp; omega) (by have := hE.size; have := hx25.size; omega) ?_)
        intro v H5 o5 gr
        have x5 : Ext H H5 := gr.ext (hE.trans hx25) (fun g e => (ow.lt g e).1)
        obtain ⟨V3, c3, rfl, -⟩ := o5.form
        have e3 : (l.take k).map (·.2) ++ [l[k].2] = (l.take (k + 1)).map (·.2) := by rw [List.take_succ_eq_append_getElem hk, List.map_append]; rfl
        have el : ((l.take k).map (·.2) ++ [l[k].2]).length = k + 1 := by rw [e3, List.length_map, List.length_take]; omega
        rw [el, e3] at o5
        rw [el]
        refine seqQ rfl rfl (yAssign (v := .slice _ _ _) rfl rfl) ?_
        refine seqNil ?_
        refine hF10 _ _ ?_; clear hF10
        refine wpRegion ?_
        refine seqQ rfl rfl (yAdd rfl rfl rfl (by unfold In64; omega)) ?_
        refine seqQ rfl rfl (yMove (v := .int _ _) rfl rfl) ?_
        refine seqNil ?_
        -- end loop
        refine loopEnd (k + 1, V3, c3) (by repeat (first | (with_reducible exact Agree.refl _ _) | refine Agree.upd ?_ rfl | refine Agree.over ?_ rfl)) (by dsimp only; omega) ⟨rfl, rfl, trivial⟩ ⟨hk, fun j hj hjk => ?_, o5, x5⟩
        by_cases e : j = k
        · subst e
          have hgt : ¬ now < l[j].1 := hgt
          omega
        · exact ho j hj (by dsimp only at hjk; omega)
    · skip
      have hkl : k = l.length := by dsimp only at hlt; omega
      have ee := expT_at hv hk ho (fun j hj e => absurd e (by omega))
      have hkc : k ≤ l.length := by omega
      have rdr := ((hA.ext hE).drop (k := k) (cap := c) hlc)
      refine wpExit ?_
      refine hF6 _ _ ?_; clear hF6
      refine wpSeq fun F15 hF15 => ?_
      refine wpRegion ?_
      refine seqQ rfl rfl (yMove (v := .slice _ _ _) rfl rfl) ?_
      refine seqQ rfl rfl (yMove (v := .slice _ _ _) rfl rfl) ?_
      refine seqQ rfl rfl (yLen rfl Try.underlying27 rfl) ?_
      refine seqQ rfl rfl (ySliceL rfl Try.underlying26 Try.sizeOf58 rfl rfl rfl hkc) ?_
      -- e slot 32: call F25<slices.Clone[farandole/timer.Table,farandole/timer.Timer]> t31
      refine seqE rfl rfl (stepCall rfl Try.call25 rfl ?_)
      have hc := tClone_c _ (c - k) (l.drop k) _ rdr (by rw [List.length_drop]; omega)
      rw [List.length_drop] at hc
      refine hc.mono ?_
      rintro v Hz ⟨oz, xz⟩
      obtain ⟨Vz, cz, rfl, -⟩ := oz.form
      refine seqQ rfl rfl (yMove (v := .slice _ _ _) rfl rfl) ?_
      refine seqQ rfl rfl (yAssign (v := .slice _ _ _) rfl rfl) ?_
      refine seqQ rfl rfl (yAssign (v := .slice _ _ _) rfl rfl) ?_
      refine seqNil ?_
      refine hF15 _ _ ?_; clear hF15
      -- ret
      refine wpRet (fin2 (v := .slice _ _ _) (v' := .slice _ _ _) rfl rfl rfl ?_)
      rw [ee]
      have hlm : ((l.take k).map (·.2)).length = k := by rw [List.length_map, List.length_take]; omega
      exact ⟨Vz, cz, VA, vc, by rw [hlm], oz.mono hE.size, by rw [hlm]; exact ow.ext xz, hE.trans xz⟩
end Go.Proofs.Ytbicgjleomkhdaa
