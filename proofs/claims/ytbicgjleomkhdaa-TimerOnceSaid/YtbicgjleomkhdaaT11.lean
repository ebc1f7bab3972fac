/- TimerOthers: setting or cancelling a timer changes no other timer. Conditions: none beyond the statement's. -/
import Derived.Test.YtbicgjleomkhdaaT10
namespace Go.Proofs.Ytbicgjleomkhdaa
open Go.ChangeShapes Go.WideShapes Go.ChangeAt Go.RowKit Go.Deep

set_option maxRecDepth 100000 in
theorem findT_mem {t : List Tm} (h : ValidT t) {x : Tm} (hx : x ∈ t) : findT t x.2 = (x.1, true) := by
  obtain ⟨k, hk, rfl⟩ := List.getElem_of_mem hx
  have hp := List.pairwise_iff_getElem.1 h.ids
  exact findT_at hk (fun i hi hik => hp i k hi hk hik) rfl
set_option maxRecDepth 100000 in
theorem findT_not {t : List Tm} {id : Int} (h : ∀ y ∈ t, y.2 ≠ id) : findT t id = (0, false) := findT_none fun _ hi => h _ (List.getElem_mem hi)
set_option maxRecDepth 100000 in
theorem set_ok {t : List Tm} {id a : Int} (h : (setT t id a).1 = 0) : setT t id a = (0, insT (woutT t id) (a, id)) := by
  by_cases hv : ValidT t
  · by_cases ho : okT (a, id)
    · by_cases hf : 300 ≤ (woutT t id).length
      · rw [setT_full hv ho hf] at h
        exact absurd h (by decide)
      · exact setT_ok hv ho hf
    · rw [setT_range hv ho] at h
      exact absurd h (by decide)
  · rw [setT_bad hv] at h
    exact absurd h (by decide)
set_option maxRecDepth 100000 in
theorem cancel_ok {t : List Tm} {id : Int} (h : (cancelT t id).1 = 0) : cancelT t id = (0, woutT t id) := by
  by_cases hv : ValidT t
  · by_cases hf : (woutT t id).length = t.length
    · rw [cancelT_none hv hf] at h
      exact absurd h (by decide)
    · exact cancelT_ok hv hf
  · rw [cancelT_bad hv] at h
    exact absurd h (by decide)
set_option maxRecDepth 100000 in
theorem set_other {t : List Tm} {id a : Int} {x : Tm} (h : (setT t id a).1 = 0) (hx : x ∈ t) (hn : x.2 ≠ id) : findT (setT t id a).2 x.2 = (x.1, true) :=
  findT_mem (valid_setT t id a) (by rw [set_ok h]; exact mem_insT.2 (.inr (mem_wout.2 ⟨hx, hn⟩)))
set_option maxRecDepth 100000 in
theorem set_self {t : List Tm} {id a : Int} (h : (setT t id a).1 = 0) : findT (setT t id a).2 id = (a, true) :=
  findT_mem (x := (a, id)) (valid_setT t id a) (by rw [set_ok h]; exact mem_insT.2 (.inl rfl))
set_option maxRecDepth 100000 in
theorem cancel_other {t : List Tm} {id : Int} {x : Tm} (h : (cancelT t id).1 = 0) (hx : x ∈ t) (hn : x.2 ≠ id) : findT (cancelT t id).2 x.2 = (x.1, true) :=
  findT_mem (valid_cancelT t id) (by rw [cancel_ok h]; exact mem_wout.2 ⟨hx, hn⟩)
set_option maxRecDepth 100000 in
theorem cancel_self (t : List Tm) (id : Int) : findT (cancelT t id).2 id = (0, false) := by
  by_cases h : (cancelT t id).1 = 0
  · rw [cancel_ok h]
    exact findT_not fun y hy => (mem_wout.1 hy).2
  · have e : (cancelT t id).2 = [] := by
      by_cases hv : ValidT t
      · by_cases hf : (woutT t id).length = t.length
        · rw [cancelT_none hv hf]
        · rw [cancelT_ok hv hf] at h
          exact absurd rfl h
      · rw [cancelT_bad hv]
    rw [e]
    rfl
set_option maxRecDepth 100000 in
theorem toth_walk (A : Option Addr) (ca : Nat) (l : List Tm) (id a : Int) (H : Heap) (hA : Rd eTm H A l) (hl : l.length ≤ 9223372036854775807) :
    CallsH Try.prog 7 [.slice A l.length ca, .int .i64 id, .int .i64 a] H fun v H' => v = .bool true ∧ Ext H H' := by
  have ls := (valid_setT l id a).2
  have lc := (valid_cancelT l id).2
  refine callsH_of Try.func7 rfl Try.ntmps7 (Nat.le_of_ble_eq_true rfl) ?_
  refine wpSeq fun F1 hF1 => ?_
  refine wpRegion ?_
  refine seqQ rfl rfl (yAssign (v := .bool _) rfl rfl) ?_
  refine seqNil ?_
  refine hF1 _ _ ?_; clear hF1
  refine wpSeq fun F2 hF2 => ?_
  refine wpSeq fun F3 hF3 => ?_
  refine wpRegion ?_
  -- e slot 20: call F8<farandole/farandolelaw49.awake> 
  refine seqE rfl rfl (stepCall rfl Try.call8 rfl ?_)
  refine (tmAwake_c _).mono ?_
  rintro v Ha ⟨rfl, xa⟩
  refine seqQ rfl rfl (yNot rfl rfl) ?_
  refine seqNil ?_
  refine hF3 _ _ ?_; clear hF3
  -- if t21
  refine wpF rfl ?_
  refine wpSkip ?_
  refine hF2 _ _ ?_; clear hF2
  refine wpSeq fun F4 hF4 => ?_
  refine wpSeq fun F5 hF5 => ?_
  refine wpRegion ?_
  refine seqQ rfl rfl (yMove (v := .slice _ _ _) rfl rfl) ?_
  refine seqQ rfl rfl (yLen rfl Try.underlying22 rfl) ?_
  refine seqQ rfl rfl (yGtr rfl rfl rfl) ?_
  first | refine seqG rfl rfl rfl rfl (fun h25 => ?_) (fun h25 => ?_) | refine seqGB rfl rfl rfl rfl (fun h25 => ?_) (fun h25 => ?_)
  · skip
    refine seqU rfl rfl ?_
    refine seqU rfl rfl ?_
    refine seqU rfl rfl ?_
    refine seqQ rfl rfl (yPickT (v := .bool _) rfl rfl rfl) ?_
    refine seqNil ?_
    refine hF5 _ _ ?_; clear hF5
    refine wpT rfl ?_
    refine wpSeq fun F6 hF6 => ?_
    refine wpRegion ?_
    refine seqQ rfl rfl (yAssign (v := .bool _) rfl rfl) ?_
    refine seqNil ?_
    refine hF6 _ _ ?_; clear hF6
    refine wpRet (fin1 (v := .bool _) rfl rfl ?_)
    exact ⟨rfl, xa⟩
  refine seqQ rfl rfl (yMove (v := .slice _ _ _) rfl rfl) ?_
  -- e slot 27: call F9<farandole/farandoleref49.Valid> t26
  have hl : l.length ≤ 320 := by omega
  refine seqE rfl rfl (stepCall rfl Try.call9 rfl ?_)
  refine (rValidT_c A ca l Ha (hA.ext xa) (by omega)).mono ?_
  rintro v Hv ⟨rfl, xv⟩
  replace xv := xa.trans xv
  clear xa
  refine seqQ rfl rfl (yNot rfl rfl) ?_
  refine seqQ rfl rfl (yPickF (v := .bool _) rfl rfl rfl) ?_
  refine seqNil ?_
  refine hF5 _ _ ?_; clear hF5
  -- if t29
  refine wpCond rfl (fun hv => ?_) (fun hv => ?_)
  · skip
    refine wpSeq fun F7 hF7 => ?_
    refine wpRegion ?_
    refine seqQ rfl rfl (yAssign (v := .bool _) rfl rfl) ?_
    refine seqNil ?_
    refine hF7 _ _ ?_; clear hF7
    -- ret
    refine wpRet (fin1 (v := .bool _) rfl rfl ?_)
    exact ⟨rfl, xv⟩
  · skip
    have hv : ValidT l := by simpa using hv
    refine wpSkip ?_
    refine hF4 _ _ ?_; clear hF4
    refine wpSeq fun F8 hF8 => ?_
    refine wpRegion ?_
    refine seqQ rfl rfl (yMove (v := .slice _ _ _) rfl rfl) ?_
    -- e slot 32: call F11<farandole/farandolelaw49.to> t31
    refine seqE rfl rfl (stepCall rfl Try.call11 rfl ?_)
    refine (toT_c A ca l Hv (hA.ext xv) (by omega)).mono ?_
    rintro v H1 ⟨o1, x1⟩
    obtain ⟨V1, c1, rfl, -⟩ := o1.form
    replace x1 := xv.trans x1
    clear xv
    refine seqQ rfl rfl (yMove (v := .int _ _) rfl rfl) ?_
    refine seqQ rfl rfl (yMove (v := .int _ _) rfl rfl) ?_
    -- e slot 35: call F19<farandole/timer.Set> t32 t33 t34
    refine seqE rfl rfl (stepCall rfl Try.call19 rfl ?_)
    refine (set_c V1 c1 l id a H1 (Own.rd o1).2 (by omega)).mono ?_
    rintro v H2 ⟨V2, c2, rfl, o2, x2⟩
    have r2 := (Own.rd o2).2
    replace x2 := x1.trans x2
    clear x1 o1 o2
    refine seqQ rfl rfl (yMove (v := .tuple _) rfl rfl) ?_
    refine seqQ rfl rfl (yExtract (v := .slice _ _ _) rfl rfl rfl) ?_
    refine seqQ rfl rfl (yExtract (v := .int _ _) rfl rfl rfl) ?_
    refine seqQ rfl rfl (yAssign (v := .slice _ _ _) rfl rfl) ?_
    refine seqQ rfl rfl (yAssign (v := .int _ _) rfl rfl) ?_
    refine seqNil ?_
    refine hF8 _ _ ?_; clear hF8
    refine wpSeq fun F9 hF9 => ?_
    refine wpRegion ?_
    refine seqQ rfl rfl (yMove (v := .slice _ _ _) rfl rfl) ?_
    -- e slot 40: call F11<farandole/farandolelaw49.to> t39
    refine seqE rfl rfl (stepCall rfl Try.call11 rfl ?_)
    refine (toT_c A ca l H2 (hA.ext x2) (by omega)).mono ?_
    rintro v H4 ⟨o4, x4⟩
    obtain ⟨V4, c4, rfl, -⟩ := o4.form
    replace r2 := r2.ext x4
    replace x4 := x2.trans x4
    clear x2
    refine seqQ rfl rfl (yMove (v := .int _ _) rfl rfl) ?_
    -- e slot 42: call F21<farandole/timer.Cancel> t40 t41
    refine seqE rfl rfl (stepCall rfl Try.call21 rfl ?_)
    refine (cancel_c V4 c4 l id H4 (Own.rd o4).2 (by omega)).mono ?_
    rintro v H5 ⟨V5, c5, rfl, o5, x5⟩
    have r5 := (Own.rd o5).2
    replace r2 := r2.ext x5
    replace x5 := x4.trans x5
    clear x4 o4 o5
    refine seqQ rfl rfl (yMove (v := .tuple _) rfl rfl) ?_
    refine seqQ rfl rfl (yExtract (v := .slice _ _ _) rfl rfl rfl) ?_
    refine seqQ rfl rfl (yExtract (v := .int _ _) rfl rfl rfl) ?_
    refine seqQ rfl rfl (yAssign (v := .slice _ _ _) rfl rfl) ?_
    refine seqQ rfl rfl (yAssign (v := .int _ _) rfl rfl) ?_
    refine seqNil ?_
    refine hF9 _ _ ?_; clear hF9
    refine wpSeq fun F10 hF10 => ?_
    refine wpSeq fun F11 hF11 => ?_
    refine wpRegion ?_
    refine seqQ rfl rfl (yAssign (v := .int _ _) rfl rfl) ?_
    refine seqNil ?_
    refine hF11 _ _ ?_; clear hF11
    -- loop
    refine wpBlock ?_
    refine wpLoopS [6, 11, 12, 13, 14, 15, 45, 46, 47, 48, 49, 50, 51, 52, 53, 54, 55, 56, 57, 58, 59, 60, 61, 62, 63, 64, 65, 66, 67, 68, 69, 70, 71, 72, 73, 74, 75, 76, 77, 78, 79, 80, 81, 82, 83, 84, 85, 86, 87, 88, 89, 90, 91, 92, 93, 94, 95, 96, 97, 98, 99, 100, 101, 102, 103, 104, 105, 106, 107] (fun k : Nat => [(11, .int .i64 k)]) (fun k H' => k ≤ l.length ∧ Ext H H' ∧ Rd eTm H' V2 (setT l id a).2 ∧ Rd eTm H' V5 (cancelT l id).2) (fun k => l.length - k) 0 ⟨rfl, trivial⟩ ⟨Nat.zero_le _, x5, r2, r5⟩ ?_
    clear x5 r2 r5
    rintro k J H6 ⟨hk, hE, r2, r5⟩
    refine wpSeq fun F12 hF12 => ?_
    refine wpSeq fun F13 hF13 => ?_
    refine wpRegion ?_
    refine seqQ rfl rfl (yMove (v := .int _ _) rfl rfl) ?_
    refine seqQ rfl rfl (yMove (v := .slice _ _ _) rfl rfl) ?_
    refine seqQ rfl rfl (yLen rfl Try.underlying22 rfl) ?_
    refine seqQ rfl rfl (yLss rfl rfl rfl) ?_
    refine seqNil ?_
    refine hF13 _ _ ?_; clear hF13
    -- if t48
    refine wpIf rfl (fun hlt => ?_) (fun hlt => ?_)
    · skip
      have hk : k < l.length := by omega
      obtain ⟨p, ep, hp⟩ := (hA.ext hE).at hk
      refine wpSkip ?_
      refine hF12 _ _ ?_; clear hF12
      refine wpSeq fun F14 hF14 => ?_
      refine wpBlock ?_
      refine wpSeq fun F15 hF15 => ?_
      refine wpSeq fun F16 hF16 => ?_
      refine wpRegion ?_
      refine seqQ rfl rfl (yMove (v := .slice _ _ _) rfl rfl) ?_
      refine seqQ rfl rfl (yMove (v := .int _ _) rfl rfl) ?_
      refine seqQ rfl rfl (yIdxP rfl Try.underlying22 Try.sizeOf42 rfl rfl ep rfl hk) ?_
      refine seqQ rfl rfl (yFieldAddr rfl Try.underlying42 rfl Try.sizeOf3 rfl rfl) ?_
      refine seqQ rfl rfl (yLoad rfl Try.underlying3 rfl rfl (hp 1 _ rfl)) ?_
      refine seqQ rfl rfl (yMove (v := .int _ _) rfl rfl) ?_
      refine seqQ rfl rfl (yEql rfl rfl rfl) ?_
      refine seqNil ?_
      refine hF16 _ _ ?_; clear hF16
      -- if t57
      refine wpIf rfl (fun hid => ?_) (fun hid => ?_)
      · skip
        refine wpExit ?_
        refine hF14 _ _ ?_; clear hF14
        refine wpRegion ?_
        refine seqQ rfl rfl (yMove (v := .int _ _) rfl rfl) ?_
        refine seqQ rfl rfl (yAdd rfl rfl rfl (by unfold In64; omega)) ?_
        refine seqQ rfl rfl (yAssign (v := .int _ _) rfl rfl) ?_
        refine seqNil ?_
        -- end loop
        exact loopEnd (k + 1) (by repeat (first | (with_reducible exact Agree.refl _ _) | refine Agree.upd ?_ rfl | refine Agree.over ?_ rfl)) (by omega) ⟨rfl, trivial⟩ ⟨hk, hE, r2, r5⟩
      · skip
        refine wpSkip ?_
        refine hF15 _ _ ?_; clear hF15
        refine wpSeq fun F17 hF17 => ?_
        refine wpSeq fun F18 hF18 => ?_
        refine wpRegion ?_
        refine seqQ rfl rfl (yMove (v := .slice _ _ _) rfl rfl) ?_
        refine seqQ rfl rfl (yMove (v := .slice _ _ _) rfl rfl) ?_
        refine seqQ rfl rfl (yMove (v := .int _ _) rfl rfl) ?_
        refine seqQ rfl rfl (yIdxP rfl Try.underlying22 Try.sizeOf42 rfl rfl ep rfl hk) ?_
        refine seqQ rfl rfl (yFieldAddr rfl Try.underlying42 rfl Try.sizeOf3 rfl rfl) ?_
        refine seqQ rfl rfl (yLoad rfl Try.underlying3 rfl rfl (hp 1 _ rfl)) ?_
        -- e slot 65: call F23<farandole/timer.Find> t59 t64
        refine seqE rfl rfl (stepCall rfl Try.call23 rfl ?_)
        obtain ⟨fn, fo, hfe⟩ : ∃ n ok, findT (setT l id a).2 l[k].2 = (n, ok) := ⟨_, _, rfl⟩
        have hc := tFind_c V2 c2 (setT l id a).2 l[k].2 H6 r2 (by omega)
        rw [hfe] at hc
        refine hc.mono ?_
        rintro v H7 ⟨rfl, x7⟩
        replace hE := hE.trans x7
        replace r2 := r2.ext x7
        replace r5 := r5.ext x7
        clear x7 hc hp
        obtain ⟨p, ep, hp⟩ := (hA.ext hE).at hk
        refine seqQ rfl rfl (yMove (v := .tuple _) rfl rfl) ?_
        refine seqQ rfl rfl (yExtract (v := .int _ _) rfl rfl rfl) ?_
        refine seqQ rfl rfl (yExtract (v := .bool _) rfl rfl rfl) ?_
        refine seqQ rfl rfl (yAssign (v := .int _ _) rfl rfl) ?_
        refine seqQ rfl rfl (yAssign (v := .bool _) rfl rfl) ?_
        refine seqNil ?_
        refine hF18 _ _ ?_; clear hF18
        refine wpSeq fun F19 hF19 => ?_
        refine wpRegion ?_
        refine seqQ rfl rfl (yMove (v := .int _ _) rfl rfl) ?_
        refine seqQ rfl rfl (yEql rfl rfl rfl) ?_
        -- guard t70
        have hres : (setT l id a).1 = 0 → fn = l[k].1 ∧ fo = true := fun h => by
          have := set_other h (List.getElem_mem hk) hid
          rw [hfe] at this
          injection this with h1 h2
          exact ⟨h1, h2⟩
        by_cases e0 : (setT l id a).1 = 0
        · skip
          obtain ⟨rfl, rfl⟩ := hres e0
          rw [decide_eq_true e0]
          refine seqQ rfl rfl (yMove (v := .bool true) rfl rfl) ?_
          refine seqQ rfl rfl (yMove (v := .bool _) rfl rfl) ?_
          refine seqQ rfl rfl (yNot rfl rfl) ?_
          refine seqQ rfl rfl (yMove (v := .bool false) rfl rfl) ?_
          refine seqQ rfl rfl (yMove (v := .int _ _) rfl rfl) ?_
          refine seqQ rfl rfl (yMove (v := .slice _ _ _) rfl rfl) ?_
          refine seqQ rfl rfl (yMove (v := .int _ _) rfl rfl) ?_
          refine seqQ rfl rfl (yIdxP rfl Try.underlying22 Try.sizeOf42 rfl rfl ep rfl hk) ?_
          refine seqQ rfl rfl (yFieldAddr rfl Try.underlying42 rfl Try.sizeOf3 rfl rfl) ?_
          refine seqQ rfl rfl (yLoad rfl Try.underlying3 rfl rfl (hp 0 _ rfl)) ?_
          refine seqQ rfl rfl (yNeq rfl rfl rfl) ?_
          refine seqQ rfl rfl (yPickF (v := .bool _) rfl rfl rfl) ?_
          refine seqQ rfl rfl (yPickT (v := .bool _) rfl rfl rfl) ?_
          refine seqNil ?_
          refine hF19 _ _ ?_; clear hF19
          -- if t82
          refine wpCond rfl (fun h81 => ?_) (fun h81 => ?_)
          · skip
            simp at h81
          · skip
            refine wpSkip ?_
            refine hF17 _ _ ?_; clear hF17
            refine wpSeq fun F20 hF20 => ?_
            refine wpRegion ?_
            refine seqQ rfl rfl (yMove (v := .slice _ _ _) rfl rfl) ?_
            refine seqQ rfl rfl (yMove (v := .slice _ _ _) rfl rfl) ?_
            refine seqQ rfl rfl (yMove (v := .int _ _) rfl rfl) ?_
            refine seqQ rfl rfl (yIdxP rfl Try.underlying22 Try.sizeOf42 rfl rfl ep rfl hk) ?_
            refine seqQ rfl rfl (yFieldAddr rfl Try.underlying42 rfl Try.sizeOf3 rfl rfl) ?_
            refine seqQ rfl rfl (yLoad rfl Try.underlying3 rfl rfl (hp 1 _ rfl)) ?_
            -- e slot 90: call F23<farandole/timer.Find> t84 t89
            refine seqE rfl rfl (stepCall rfl Try.call23 rfl ?_)
            obtain ⟨gn, go, hge⟩ : ∃ n ok, findT (cancelT l id).2 l[k].2 = (n, ok) := ⟨_, _, rfl⟩
            have hc := tFind_c V5 c5 (cancelT l id).2 l[k].2 H7 r5 (by omega)
            rw [hge] at hc
            refine hc.mono ?_
            rintro v H8 ⟨rfl, x8⟩
            replace hE := hE.trans x8
            replace r2 := r2.ext x8
            replace r5 := r5.ext x8
            clear x8 hc hp
            obtain ⟨p, ep, hp⟩ := (hA.ext hE).at hk
            refine seqQ rfl rfl (yMove (v := .tuple _) rfl rfl) ?_
            refine seqQ rfl rfl (yExtract (v := .int _ _) rfl rfl rfl) ?_
            refine seqQ rfl rfl (yExtract (v := .bool _) rfl rfl rfl) ?_
            refine seqQ rfl rfl (yAssign (v := .int _ _) rfl rfl) ?_
            refine seqQ rfl rfl (yAssign (v := .bool _) rfl rfl) ?_
            refine seqNil ?_
            refine hF20 _ _ ?_; clear hF20
            refine wpSeq fun F21 hF21 => ?_
            refine wpRegion ?_
            refine seqQ rfl rfl (yMove (v := .int _ _) rfl rfl) ?_
            refine seqQ rfl rfl (yEql rfl rfl rfl) ?_
            -- guard t95
            have hres2 : (cancelT l id).1 = 0 → gn = l[k].1 ∧ go = true := fun h => by
              have := cancel_other h (List.getElem_mem hk) hid
              rw [hge] at this
              injection this with h1 h2
              exact ⟨h1, h2⟩
            by_cases e1 : (cancelT l id).1 = 0
            · skip
              obtain ⟨rfl, rfl⟩ := hres2 e1
              rw [decide_eq_true e1]
              refine seqQ rfl rfl (yMove (v := .bool true) rfl rfl) ?_
              refine seqQ rfl rfl (yMove (v := .bool _) rfl rfl) ?_
              refine seqQ rfl rfl (yNot rfl rfl) ?_
              refine seqQ rfl rfl (yMove (v := .bool false) rfl rfl) ?_
              refine seqQ rfl rfl (yMove (v := .int _ _) rfl rfl) ?_
              refine seqQ rfl rfl (yMove (v := .slice _ _ _) rfl rfl) ?_
              refine seqQ rfl rfl (yMove (v := .int _ _) rfl rfl) ?_
              refine seqQ rfl rfl (yIdxP rfl Try.underlying22 Try.sizeOf42 rfl rfl ep rfl hk) ?_
              refine seqQ rfl rfl (yFieldAddr rfl Try.underlying42 rfl Try.sizeOf3 rfl rfl) ?_
              refine seqQ rfl rfl (yLoad rfl Try.underlying3 rfl rfl (hp 0 _ rfl)) ?_
              refine seqQ rfl rfl (yNeq rfl rfl rfl) ?_
              refine seqQ rfl rfl (yPickF (v := .bool _) rfl rfl rfl) ?_
              refine seqQ rfl rfl (yPickT (v := .bool _) rfl rfl rfl) ?_
              refine seqNil ?_
              refine hF21 _ _ ?_; clear hF21
              -- if t107
              refine wpCond rfl (fun h106 => ?_) (fun h106 => ?_)
              · skip
                simp at h106
              · skip
                refine wpSkip ?_
                refine hF14 _ _ ?_; clear hF14
                refine wpRegion ?_
                refine seqQ rfl rfl (yMove (v := .int _ _) rfl rfl) ?_
                refine seqQ rfl rfl (yAdd rfl rfl rfl (by unfold In64; omega)) ?_
                refine seqQ rfl rfl (yAssign (v := .int _ _) rfl rfl) ?_
                refine seqNil ?_
                -- end loop
                exact loopEnd (k + 1) (by repeat (first | (with_reducible exact Agree.refl _ _) | refine Agree.upd ?_ rfl | refine Agree.over ?_ rfl)) (by omega) ⟨rfl, trivial⟩ ⟨hk, hE, r2, r5⟩
            · skip
              rw [decide_eq_false e1]
              refine seqQ rfl rfl (yMove (v := .bool false) rfl rfl) ?_
              refine seqU rfl rfl ?_
              refine seqU rfl rfl ?_
              refine seqU rfl rfl ?_
              refine seqU rfl rfl ?_
              refine seqU rfl rfl ?_
              refine seqU rfl rfl ?_
              refine seqU rfl rfl ?_
              refine seqU rfl rfl ?_
              refine seqU rfl rfl ?_
              refine seqU rfl rfl ?_
              refine seqU rfl rfl ?_
              refine seqQ rfl rfl (yPickF (v := .bool _) rfl rfl rfl) ?_
              refine seqNil ?_
              refine hF21 _ _ ?_; clear hF21
              -- if t107
              refine wpF rfl ?_
              refine wpSkip ?_
              refine hF14 _ _ ?_; clear hF14
              refine wpRegion ?_
              refine seqQ rfl rfl (yMove (v := .int _ _) rfl rfl) ?_
              refine seqQ rfl rfl (yAdd rfl rfl rfl (by unfold In64; omega)) ?_
              refine seqQ rfl rfl (yAssign (v := .int _ _) rfl rfl) ?_
              refine seqNil ?_
              -- end loop
              exact loopEnd (k + 1) (by repeat (first | (with_reducible exact Agree.refl _ _) | refine Agree.upd ?_ rfl | refine Agree.over ?_ rfl)) (by omega) ⟨rfl, trivial⟩ ⟨hk, hE, r2, r5⟩
        · skip
          rw [decide_eq_false e0]
          refine seqQ rfl rfl (yMove (v := .bool false) rfl rfl) ?_
          refine seqU rfl rfl ?_
          refine seqU rfl rfl ?_
          refine seqU rfl rfl ?_
          refine seqU rfl rfl ?_
          refine seqU rfl rfl ?_
          refine seqU rfl rfl ?_
          refine seqU rfl rfl ?_
          refine seqU rfl rfl ?_
          refine seqU rfl rfl ?_
          refine seqU rfl rfl ?_
          refine seqU rfl rfl ?_
          refine seqQ rfl rfl (yPickF (v := .bool _) rfl rfl rfl) ?_
          refine seqNil ?_
          refine hF19 _ _ ?_; clear hF19
          -- if t82
          refine wpF rfl ?_
          refine wpSkip ?_
          refine hF17 _ _ ?_; clear hF17
          refine wpSeq fun F22 hF22 => ?_
          refine wpRegion ?_
          refine seqQ rfl rfl (yMove (v := .slice _ _ _) rfl rfl) ?_
          refine seqQ rfl rfl (yMove (v := .slice _ _ _) rfl rfl) ?_
          refine seqQ rfl rfl (yMove (v := .int _ _) rfl rfl) ?_
          refine seqQ rfl rfl (yIdxP rfl Try.underlying22 Try.sizeOf42 rfl rfl ep rfl hk) ?_
          refine seqQ rfl rfl (yFieldAddr rfl Try.underlying42 rfl Try.sizeOf3 rfl rfl) ?_
          refine seqQ rfl rfl (yLoad rfl Try.underlying3 rfl rfl (hp 1 _ rfl)) ?_
          -- e slot 90: call F23<farandole/timer.Find> t84 t89
          refine seqE rfl rfl (stepCall rfl Try.call23 rfl ?_)
          obtain ⟨gn, go, hge⟩ : ∃ n ok, findT (cancelT l id).2 l[k].2 = (n, ok) := ⟨_, _, rfl⟩
          have hc := tFind_c V5 c5 (cancelT l id).2 l[k].2 H7 r5 (by omega)
          rw [hge] at hc
          refine hc.mono ?_
          rintro v H8 ⟨rfl, x8⟩
          replace hE := hE.trans x8
          replace r2 := r2.ext x8
          replace r5 := r5.ext x8
          clear x8 hc hp
          obtain ⟨p, ep, hp⟩ := (hA.ext hE).at hk
          refine seqQ rfl rfl (yMove (v := .tuple _) rfl rfl) ?_
          refine seqQ rfl rfl (yExtract (v := .int _ _) rfl rfl rfl) ?_
          refine seqQ rfl rfl (yExtract (v := .bool _) rfl rfl rfl) ?_
          refine seqQ rfl rfl (yAssign (v := .int _ _) rfl rfl) ?_
          refine seqQ rfl rfl (yAssign (v := .bool _) rfl rfl) ?_
          refine seqNil ?_
          refine hF22 _ _ ?_; clear hF22
          refine wpSeq fun F23 hF23 => ?_
          refine wpRegion ?_
          refine seqQ rfl rfl (yMove (v := .int _ _) rfl rfl) ?_
          refine seqQ rfl rfl (yEql rfl rfl rfl) ?_
          -- guard t95
          have hres2 : (cancelT l id).1 = 0 → gn = l[k].1 ∧ go = true := fun h => by
            have := cancel_other h (List.getElem_mem hk) hid
            rw [hge] at this
            injection this with h1 h2
            exact ⟨h1, h2⟩
          by_cases e1 : (cancelT l id).1 = 0
          · skip
            obtain ⟨rfl, rfl⟩ := hres2 e1
            rw [decide_eq_true e1]
            refine seqQ rfl rfl (yMove (v := .bool true) rfl rfl) ?_
            refine seqQ rfl rfl (yMove (v := .bool _) rfl rfl) ?_
            refine seqQ rfl rfl (yNot rfl rfl) ?_
            refine seqQ rfl rfl (yMove (v := .bool false) rfl rfl) ?_
            refine seqQ rfl rfl (yMove (v := .int _ _) rfl rfl) ?_
            refine seqQ rfl rfl (yMove (v := .slice _ _ _) rfl rfl) ?_
            refine seqQ rfl rfl (yMove (v := .int _ _) rfl rfl) ?_
            refine seqQ rfl rfl (yIdxP rfl Try.underlying22 Try.sizeOf42 rfl rfl ep rfl hk) ?_
            refine seqQ rfl rfl (yFieldAddr rfl Try.underlying42 rfl Try.sizeOf3 rfl rfl) ?_
            refine seqQ rfl rfl (yLoad rfl Try.underlying3 rfl rfl (hp 0 _ rfl)) ?_
            refine seqQ rfl rfl (yNeq rfl rfl rfl) ?_
            refine seqQ rfl rfl (yPickF (v := .bool _) rfl rfl rfl) ?_
            refine seqQ rfl rfl (yPickT (v := .bool _) rfl rfl rfl) ?_
            refine seqNil ?_
            refine hF23 _ _ ?_; clear hF23
            -- if t107
            refine wpCond rfl (fun h106 => ?_) (fun h106 => ?_)
            · skip
              simp at h106
            · skip
              refine wpSkip ?_
              refine hF14 _ _ ?_; clear hF14
              refine wpRegion ?_
              refine seqQ rfl rfl (yMove (v := .int _ _) rfl rfl) ?_
              refine seqQ rfl rfl (yAdd rfl rfl rfl (by unfold In64; omega)) ?_
              refine seqQ rfl rfl (yAssign (v := .int _ _) rfl rfl) ?_
              refine seqNil ?_
              -- end loop
              exact loopEnd (k + 1) (by repeat (first | (with_reducible exact Agree.refl _ _) | refine Agree.upd ?_ rfl | refine Agree.over ?_ rfl)) (by omega) ⟨rfl, trivial⟩ ⟨hk, hE, r2, r5⟩
          · skip
            rw [decide_eq_false e1]
            refine seqQ rfl rfl (yMove (v := .bool false) rfl rfl) ?_
            refine seqU rfl rfl ?_
            refine seqU rfl rfl ?_
            refine seqU rfl rfl ?_
            refine seqU rfl rfl ?_
            refine seqU rfl rfl ?_
            refine seqU rfl rfl ?_
            refine seqU rfl rfl ?_
            refine seqU rfl rfl ?_
            refine seqU rfl rfl ?_
            refine seqU rfl rfl ?_
            refine seqU rfl rfl ?_
            refine seqQ rfl rfl (yPickF (v := .bool _) rfl rfl rfl) ?_
            refine seqNil ?_
            refine hF23 _ _ ?_; clear hF23
            -- if t107
            refine wpF rfl ?_
            refine wpSkip ?_
            refine hF14 _ _ ?_; clear hF14
            refine wpRegion ?_
            refine seqQ rfl rfl (yMove (v := .int _ _) rfl rfl) ?_
            refine seqQ rfl rfl (yAdd rfl rfl rfl (by unfold In64; omega)) ?_
            refine seqQ rfl rfl (yAssign (v := .int _ _) rfl rfl) ?_
            refine seqNil ?_
            -- end loop
            exact loopEnd (k + 1) (by repeat (first | (with_reducible exact Agree.refl _ _) | refine Agree.upd ?_ rfl | refine Agree.over ?_ rfl)) (by omega) ⟨rfl, trivial⟩ ⟨hk, hE, r2, r5⟩
    · skip
      refine wpExit ?_
      refine hF10 _ _ ?_; clear hF10
      refine wpSeq fun F24 hF24 => ?_
      refine wpRegion ?_
      refine seqQ rfl rfl (yMove (v := .slice _ _ _) rfl rfl) ?_
      refine seqQ rfl rfl (yMove (v := .int _ _) rfl rfl) ?_
      -- e slot 111: call F23<farandole/timer.Find> t109 t110
      refine seqE rfl rfl (stepCall rfl Try.call23 rfl ?_)
      obtain ⟨fn, fo, hfe⟩ : ∃ n ok, findT (setT l id a).2 id = (n, ok) := ⟨_, _, rfl⟩
      have hc := tFind_c V2 c2 (setT l id a).2 id H6 r2 (by omega)
      rw [hfe] at hc
      refine hc.mono ?_
      rintro v H7 ⟨rfl, x7⟩
      refine seqQ rfl rfl (yMove (v := .tuple _) rfl rfl) ?_
      refine seqQ rfl rfl (yExtract (v := .int _ _) rfl rfl rfl) ?_
      refine seqQ rfl rfl (yExtract (v := .bool _) rfl rfl rfl) ?_
      refine seqQ rfl rfl (yAssign (v := .int _ _) rfl rfl) ?_
      refine seqQ rfl rfl (yAssign (v := .bool _) rfl rfl) ?_
      refine seqNil ?_
      refine hF24 _ _ ?_; clear hF24
      refine wpSeq fun F25 hF25 => ?_
      refine wpRegion ?_
      refine seqQ rfl rfl (yMove (v := .slice _ _ _) rfl rfl) ?_
      refine seqQ rfl rfl (yMove (v := .int _ _) rfl rfl) ?_
      -- e slot 117: call F23<farandole/timer.Find> t115 t116
      refine seqE rfl rfl (stepCall rfl Try.call23 rfl ?_)
      have hc2 := tFind_c V5 c5 (cancelT l id).2 id H7 (r5.ext x7) (by omega)
      rw [cancel_self] at hc2
      refine hc2.mono ?_
      rintro v H8 ⟨rfl, x8⟩
      have hE' := (hE.trans x7).trans x8
      have hres : (setT l id a).1 = 0 → fn = a ∧ fo = true := fun h => by
        have := set_self h
        rw [hfe] at this
        injection this with h1 h2
        exact ⟨h1, h2⟩
      refine seqQ rfl rfl (yMove (v := .tuple _) rfl rfl) ?_
      refine seqQ rfl rfl (yExtract (v := .int _ _) rfl rfl rfl) ?_
      refine seqQ rfl rfl (yExtract (v := .bool _) rfl rfl rfl) ?_
      refine seqQ rfl rfl (yAssign (v := .int _ _) rfl rfl) ?_
      refine seqQ rfl rfl (yAssign (v := .bool _) rfl rfl) ?_
      refine seqNil ?_
      refine hF25 _ _ ?_; clear hF25
      refine wpSeq fun F26 hF26 => ?_
      refine wpRegion ?_
      refine seqQ rfl rfl (yMove (v := .int _ _) rfl rfl) ?_
      refine seqQ rfl rfl (yNeq rfl rfl rfl) ?_
      -- guard t122
      by_cases e0 : (setT l id a).1 = 0
      · skip
        obtain ⟨rfl, rfl⟩ := hres e0
        rw [decide_eq_true e0]
        refine seqQ rfl rfl (yMove (v := .bool false) rfl rfl) ?_
        refine seqQ rfl rfl (yMove (v := .bool _) rfl rfl) ?_
        refine seqQ rfl rfl (yMove (v := .bool true) rfl rfl) ?_
        refine seqQ rfl rfl (yMove (v := .int _ _) rfl rfl) ?_
        refine seqQ rfl rfl (yMove (v := .int _ _) rfl rfl) ?_
        refine seqQ rfl rfl (yEql rfl rfl rfl) ?_
        refine seqQ rfl rfl (yPickT (v := .bool _) rfl rfl rfl) ?_
        refine seqQ rfl rfl (yPickF (v := .bool _) rfl rfl rfl) ?_
        -- guard t130
        rw [decide_eq_true (rfl : fn = fn)]
        refine seqQ rfl rfl (yMove (v := .bool true) rfl rfl) ?_
        refine seqQ rfl rfl (yMove (v := .bool _) rfl rfl) ?_
        refine seqQ rfl rfl (yNot rfl rfl) ?_
        refine seqQ rfl rfl (yPickT (v := .bool _) rfl rfl rfl) ?_
        refine seqQ rfl rfl (yAssign (v := .bool _) rfl rfl) ?_
        refine seqNil ?_
        refine hF26 _ _ ?_; clear hF26
        -- ret
        refine wpRet (fin1 (v := .bool _) rfl rfl ?_)
        exact ⟨rfl, hE'⟩
      · skip
        rw [decide_eq_false e0]
        refine seqQ rfl rfl (yMove (v := .bool true) rfl rfl) ?_
        refine seqU rfl rfl ?_
        refine seqU rfl rfl ?_
        refine seqU rfl rfl ?_
        refine seqU rfl rfl ?_
        refine seqU rfl rfl ?_
        refine seqU rfl rfl ?_
        refine seqQ rfl rfl (yPickT (v := .bool _) rfl rfl rfl) ?_
        refine seqQ rfl rfl (yMove (v := .bool true) rfl rfl) ?_
        refine seqQ rfl rfl (yMove (v := .bool _) rfl rfl) ?_
        refine seqQ rfl rfl (yNot rfl rfl) ?_
        refine seqQ rfl rfl (yPickT (v := .bool _) rfl rfl rfl) ?_
        refine seqQ rfl rfl (yAssign (v := .bool _) rfl rfl) ?_
        refine seqNil ?_
        refine hF26 _ _ ?_; clear hF26
        -- ret
        refine wpRet (fin1 (v := .bool _) rfl rfl ?_)
        exact ⟨rfl, hE'⟩
set_option maxRecDepth 100000 in
set_option maxRecDepth 100000 in
theorem timerOthers_lifted (os : Os) (started : os.Started) (H : Type) (enc : TypeId × Value → H) :
    ReturnsInHanded {} Try.checked os 7 .any (Rows.timerOthersSpec.pre6 enc Try.prog Try.f7 Rows.timerOthersRow.domain false) (Rows.timerOthersSpec.post enc Try.prog Try.f7 false true false false) := by
  refine law_lifted started Rows.timerOthersSpec rfl (by kernel_rfl) Try.func7 rfl
    (fun ds h => by match ds, h with | [_, _, _], _ => rfl) (of_decide_eq_true (by kernel_rfl))
    (ChangeSpec.witness6 (enc := enc) (C := Try.checked) false ⟨#[], #[.slice none 0 0, .int .i64 0, .int .i64 0], []⟩ 8 (by kernel_rfl) (by kernel_rfl) (by kernel_rfl) (by kernel_rfl)) ?_
  intro W base args ds p hval hA
  rw [Try.params7] at hA hval
  obtain ⟨v0, v1, v2, d0, d1, d2, p0, p1, p2, rfl, rfl, rfl, h0, h1, h2⟩ := trodAll_three hA
  have g0 := hval 0 _ v0 rfl rfl
  have g1 := hval 1 _ v1 rfl rfl
  have g2 := hval 2 _ v2 rfl rfl
  obtain ⟨⟨A, ca, l⟩, rfl, kA, -, k2, k3⟩ := (opn_tms W).one (one_slice Try.underlying22 g0) h0
  obtain ⟨id, rfl, -⟩ := (opn_int (W := W) Try.underlying3 (by kernel_rfl)).one (one_int Try.underlying3 g1) h1
  obtain ⟨a, rfl, -⟩ := (opn_int (W := W) Try.underlying3 (by kernel_rfl)).one (one_int Try.underlying3 g2) h2
  exact toth_walk A ca l id a W.heap kA (by have := Nat.le_trans k2 k3; unfold maxLen at this; exact this)
set_option maxRecDepth 100000 in
theorem timerOthers_holds : Rows.TimerOthersSaid :=
  OpenClaim.holds_of_wide 7 Try.f7 rfl rfl rfl rfl rfl rfl rfl ⟨rfl, rfl, rfl, rfl, rfl⟩ rfl rfl rfl rfl rfl (by kernel_rfl) Try.func7 (by kernel_rfl)
    (of_decide_eq_true (by kernel_rfl)) (by unfold Func.isWrapper; first | (rw [if_pos (by decide +kernel)]; kernel_rfl) | (rw [if_neg (by decide +kernel)]; exact ⟨rfl, rfl⟩))
    (fun os started H enc _ => timerOthers_lifted os started H enc)
end Go.Proofs.Ytbicgjleomkhdaa
