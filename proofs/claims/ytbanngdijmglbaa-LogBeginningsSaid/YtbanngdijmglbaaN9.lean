/- LogRecord: the logs of a conversation of up to 16 steps are valid, have right clocks, and are merged into an order in which each entry is behind all that are before it. Conditions: none beyond the statement's. -/
import Derived.Test.YtbanngdijmglbaaN8
namespace Go.Proofs.Ytbanngdijmglbaa
open Go.ChangeShapes Go.WideShapes Go.ChangeAt Go.RowKit Go.Deep

set_option maxRecDepth 100000 in
theorem nodup_inj {α : Type} {l : List α} (h : l.Nodup) {i j : Nat} (hi : i < l.length) (hj : j < l.length) (e : l[i] = l[j]) : i = j := by
  have hp := List.pairwise_iff_getElem.1 h
  rcases Nat.lt_trichotomy i j with g | g | g
  · exact absurd e (hp i j hi hj g)
  · exact g
  · exact absurd e.symm (hp j i hj hi g)
/-- Where the entries stand in the merged order, as far as it has been read. -/
def AtI (c : Conv) (o : List (Nat × Nat)) (m K : Nat) (w : List Int) : Prop := ∀ k : Nat, k < c.n → ∀ i : Nat, (i < m ∨ (i = m ∧ k < K)) → o[i]? = some (c.at_ k) → w.getD k 0 = i
set_option maxRecDepth 100000 in
theorem AtI.init (c : Conv) (o : List (Nat × Nat)) (w : List Int) : AtI c o 0 0 w := fun k _ i hi _ => by omega
set_option maxRecDepth 100000 in
theorem AtI.next {c : Conv} {o : List (Nat × Nat)} {m : Nat} {w : List Int} (h : AtI c o m c.n w) : AtI c o (m + 1) 0 w := fun k hk i hi e => h k hk i (by omega) e
set_option maxRecDepth 100000 in
theorem AtI.no {c : Conv} {o : List (Nat × Nat)} {m K : Nat} {w : List Int} (h : AtI c o m K w) (hm : m < o.length) (hne : o[m] ≠ c.at_ K) : AtI c o m (K + 1) w := fun k hk i hi e => by
  by_cases e1 : i = m ∧ k = K
  · obtain ⟨rfl, rfl⟩ := e1
    rw [List.getElem?_eq_getElem hm] at e
    exact absurd (Option.some.inj e) hne
  · exact h k hk i (by omega) e
set_option maxRecDepth 100000 in
theorem AtI.yes {c : Conv} {o : List (Nat × Nat)} {m K : Nat} {w : List Int} (h : AtI c o m K w) (hnd : o.Nodup) (hm : m < o.length) (hl : w.length = c.n) (hK : K < c.n) (he : o[m] = c.at_ K) : AtI c o m (K + 1) (w.set K (m : Int)) := fun k hk i hi e => by
  rw [getD_setG (by omega)]
  by_cases e1 : K = k
  · subst e1
    rw [if_pos rfl]
    obtain ⟨h1, h2⟩ := List.getElem?_eq_some_iff.1 e
    have : i = m := nodup_inj hnd h1 hm (h2.trans he.symm)
    rw [this]
  · rw [if_neg e1]
    exact h k hk i (by omega) e
set_option maxRecDepth 100000 in
theorem AtI.le {c : Conv} (ci : ConvI c) {o : List (Nat × Nat)} {w : List Int} (h : AtI c o o.length 0 w) (hin : ∀ k, k < c.n → c.at_ k ∈ o) (hb : ∀ i k, i < c.n → c.bf i k → ∀ m, o[m]? = some (c.at_ i) → c.at_ k ∈ o.take m) {i k : Nat} (hi : i < c.n) (hk : c.bf i k) : w.getD k 0 ≤ w.getD i 0 := by
  have hkn : k < c.n := by have := ci.inv.bfl i k hi hk; omega
  obtain ⟨mi, hmi⟩ := List.mem_iff_getElem?.1 (hin i hi)
  obtain ⟨mk, hmk⟩ := List.mem_iff_getElem?.1 (hb i k hi hk mi hmi)
  have hlt : mk < mi := by
    have := (List.getElem?_eq_some_iff.1 hmk).1
    rw [List.length_take] at this
    omega
  rw [List.getElem?_take_of_lt hlt] at hmk
  have h1 := h i hi mi (.inl (List.getElem?_eq_some_iff.1 hmi).1) hmi
  have h2 := h k hkn mk (.inl (List.getElem?_eq_some_iff.1 hmk).1) hmk
  omega
set_option maxRecDepth 100000 in
theorem CM.sms {X : List Nat} {gL g6 g7 b : Nat} {ws : List Value} {lhs : List LH} {hs : List Hdr} {c : Conv} {H : Heap} (cm : CM X gL g6 g7 b ws lhs hs c H) (ci : ConvI c) : LogsSm lhs := ⟨by rw [cm.l4]; decide, fun L hL => by
  obtain ⟨r, hr, rfl⟩ := List.getElem_of_mem hL
  have h1 := entsL_get hr
  rw [cm.lmap] at h1
  exact ci.sm (r := r) (by rw [← cm.l4]; exact hr) h1.symm⟩
set_option maxRecDepth 100000 in
theorem at_getElem {c : Conv} {k : Nat} (h : k < c.order.length) : c.order[k] = c.at_ k := (getD_lt h).symm
set_option maxRecDepth 100000 in
theorem record_walk (l : List Act) (A : Option Addr) (ca : Nat) (H : Heap) (h : Rd eAct H A l) :
    CallsH Try.prog 5 [.slice A l.length ca] H fun v H' => v = .bool true ∧ Ext H H' := by
  refine callsH_of Try.func5 rfl Try.ntmps5 (Nat.le_of_ble_eq_true rfl) ?_
  refine wpSeq fun F1 hF1 => ?_
  refine wpRegion ?_
  refine seqQ rfl rfl (yAssign (v := .bool _) rfl rfl) ?_
  refine seqNil ?_
  refine hF1 _ _ ?_; clear hF1
  refine wpSeq fun F2 hF2 => ?_
  refine wpSeq fun F3 hF3 => ?_
  refine wpRegion ?_
  -- e slot 17: call F10<farandole/farandolelaw57.awake> 
  refine seqE rfl rfl (stepCall rfl Try.call10 rfl ?_)
  refine (logAwake_c _).mono ?_
  rintro v Ha ⟨rfl, xa⟩
  refine seqQ rfl rfl (yNot rfl rfl) ?_
  refine seqQ rfl rfl (yMove (v := .bool false) rfl rfl) ?_
  refine seqQ rfl rfl (yMove (v := .slice _ _ _) rfl rfl) ?_
  refine seqQ rfl rfl (yLen rfl Try.underlying65 rfl) ?_
  refine seqQ rfl rfl (yGtr rfl rfl rfl) ?_
  refine seqQ rfl rfl (yPickF (v := .bool _) rfl rfl rfl) ?_
  refine seqNil ?_
  refine hF3 _ _ ?_; clear hF3
  -- if t23
  refine wpIf rfl (fun hgt => ?_) (fun hgt => ?_)
  · skip
    refine wpSeq fun F4 hF4 => ?_
    refine wpRegion ?_
    -- e slot 24: call F10<farandole/farandolelaw57.awake> 
    refine seqE rfl rfl (stepCall rfl Try.call10 rfl ?_)
    refine (logAwake_c _).mono ?_
    rintro v Hz ⟨rfl, xz⟩
    refine seqQ rfl rfl (yAssign (v := .bool _) rfl rfl) ?_
    refine seqNil ?_
    refine hF4 _ _ ?_; clear hF4
    -- ret
    refine wpRet (fin1 (v := .bool _) rfl rfl ?_)
    exact ⟨rfl, xa.trans xz⟩
  · skip
    refine wpSkip ?_
    refine hF2 _ _ ?_; clear hF2
    refine wpSeq fun F5 hF5 => ?_
    refine wpRegion ?_
    refine seqQ rfl rfl (yMove (v := .slice _ _ _) rfl rfl) ?_
    -- e slot 27: call F28<farandole/farandolelaw57.record> t26
    refine seqE rfl rfl (stepCall rfl Try.call28 rfl ?_)
    refine (record_c l A ca Ha (h.ext xa) (by omega)).mono ?_
    rintro v Hb ⟨gL, g6, g7, b, ⟨i0, vo, vb, ws, lhs, hs, c⟩, rfl, hgL, hi, hn, ci, cm, hvo, hvb, hE, -⟩
    dsimp only at hi hn ci cm hvo hvb
    replace hE := xa.trans hE
    obtain ⟨OA, oc, rfl, -⟩ := (cm.ord vo hvo).form
    obtain ⟨BA, bc, rfl, -⟩ := (cm.bef vb hvb).form
    have hn16 : c.n ≤ 16 := by omega
    have hcn : c.n = c.order.length := rfl
    have sms := cm.sms ci
    have hR := right_c lhs (some ⟨gL, 0, none⟩) 4 Hb (cm.rdLogs ci.lab) sms
    rw [cm.l4, cm.lmap, decide_eq_true ci.rightL] at hR
    refine seqQ rfl rfl (yMove (v := .tuple _) rfl rfl) ?_
    refine seqQ rfl rfl (yExtract (v := .slice _ _ _) rfl rfl rfl) ?_
    refine seqQ rfl rfl (yExtract (v := .slice _ _ _) rfl rfl rfl) ?_
    refine seqQ rfl rfl (yExtract (v := .slice _ _ _) rfl rfl rfl) ?_
    refine seqQ rfl rfl (yExtract (v := .bool _) rfl rfl rfl) ?_
    refine seqQ rfl rfl (yAssign (v := .slice _ _ _) rfl rfl) ?_
    refine seqQ rfl rfl (yAssign (v := .slice _ _ _) rfl rfl) ?_
    refine seqQ rfl rfl (yAssign (v := .slice _ _ _) rfl rfl) ?_
    refine seqQ rfl rfl (yAssign (v := .bool _) rfl rfl) ?_
    refine seqNil ?_
    refine hF5 _ _ ?_; clear hF5
    refine wpSeq fun F6 hF6 => ?_
    refine wpSeq fun F7 hF7 => ?_
    refine wpRegion ?_
    refine seqQ rfl rfl (yMove (v := .bool _) rfl rfl) ?_
    refine seqQ rfl rfl (yNot rfl rfl) ?_
    refine seqQ rfl rfl (yMove (v := .bool false) rfl rfl) ?_
    refine seqQ rfl rfl (yMove (v := .slice _ _ _) rfl rfl) ?_
    -- e slot 36: call F26<farandole/log.Right> t35
    refine seqE rfl rfl (stepCall rfl Try.call26 rfl ?_)
    refine hR.mono ?_
    rintro v Hc ⟨rfl, xc⟩
    clear hR
    replace hE := hE.trans xc
    replace cm := cm.ext xc
    obtain ⟨o, hmo, hol, hnd, hin, hbo⟩ := ci.merge
    have hMg := merge_c lhs (some ⟨gL, 0, none⟩) 4 Hc (cm.rdLogs ci.lab) sms
    rw [cm.l4, cm.lmap, hmo] at hMg
    dsimp only at hMg
    refine seqQ rfl rfl (yNot rfl rfl) ?_
    refine seqQ rfl rfl (yPickF (v := .bool _) rfl rfl rfl) ?_
    refine seqNil ?_
    refine hF7 _ _ ?_; clear hF7
    -- if t38
    refine wpF rfl ?_
    refine wpSkip ?_
    refine hF6 _ _ ?_; clear hF6
    refine wpSeq fun F8 hF8 => ?_
    refine wpRegion ?_
    refine seqQ rfl rfl (yMove (v := .slice _ _ _) rfl rfl) ?_
    -- e slot 41: call F24<farandole/log.Merge> t40
    refine seqE rfl rfl (stepCall rfl Try.call24 rfl ?_)
    refine hMg.mono ?_
    rintro v Hd ⟨O, oc2, rfl, oo, xd⟩
    clear hMg
    replace hE := hE.trans xd
    replace cm := cm.ext xd
    refine seqQ rfl rfl (yMove (v := .tuple _) rfl rfl) ?_
    refine seqQ rfl rfl (yExtract (v := .slice _ _ _) rfl rfl rfl) ?_
    refine seqQ rfl rfl (yExtract (v := .int _ _) rfl rfl rfl) ?_
    refine seqQ rfl rfl (yAssign (v := .slice _ _ _) rfl rfl) ?_
    refine seqQ rfl rfl (yAssign (v := .int _ _) rfl rfl) ?_
    refine seqNil ?_
    refine hF8 _ _ ?_; clear hF8
    refine wpSeq fun F9 hF9 => ?_
    refine wpSeq fun F10 hF10 => ?_
    refine wpRegion ?_
    refine seqQ rfl rfl (yMove (v := .int _ _) rfl rfl) ?_
    refine seqQ rfl rfl (yNeq rfl rfl rfl) ?_
    refine seqQ rfl rfl (yMove (v := .bool false) rfl rfl) ?_
    refine seqQ rfl rfl (yMove (v := .slice _ _ _) rfl rfl) ?_
    refine seqQ rfl rfl (yLen rfl Try.underlying55 rfl) ?_
    refine seqQ rfl rfl (yMove (v := .slice _ _ _) rfl rfl) ?_
    refine seqQ rfl rfl (yLen rfl Try.underlying55 rfl) ?_
    refine seqQ rfl rfl (yNeq rfl rfl rfl) ?_
    refine seqQ rfl rfl (yPickF (v := .bool _) rfl rfl rfl) ?_
    refine seqNil ?_
    refine hF10 _ _ ?_; clear hF10
    -- if t52
    rw [show (!decide ((o.length : Int) = (c.order.length : Int))) = false by rw [hol, hcn]; simp]
    refine wpF rfl ?_
    refine wpSkip ?_
    refine hF9 _ _ ?_; clear hF9
    refine wpSeq fun F11 hF11 => ?_
    refine wpRegion ?_
    refine seqQ rfl rfl (yMove (v := .slice _ _ _) rfl rfl) ?_
    refine seqQ rfl rfl (yLen rfl Try.underlying55 rfl) ?_
    -- e slot 55: makeSlice T27 t54 t54
    refine seqE rfl rfl (stepMake (c := eInt) (z := 0) rfl Try.underlying27 elem_eInt rfl (by omega) rfl rfl rfl (by omega) ?_)
    intro g55 He hxe hge ow
    have hdr := (Own.rd oo).2
    have ro := (Own.rd (cm.ord _ hvo)).2
    have hgl := (ow.lt g55 rfl).2
    refine seqQ rfl rfl (yAssign (v := .slice _ _ _) rfl rfl) ?_
    refine seqNil ?_
    refine hF11 _ _ ?_; clear hF11
    refine wpSeq fun F12 hF12 => ?_
    refine wpSeq fun F13 hF13 => ?_
    refine wpRegion ?_
    refine seqQ rfl rfl (yMove (v := .slice _ _ _) rfl rfl) ?_
    refine seqQ rfl rfl (yLen rfl Try.underlying55 rfl) ?_
    refine seqQ rfl rfl (yMove (v := .int _ _) rfl rfl) ?_
    refine seqNil ?_
    refine hF13 _ _ ?_; clear hF13
    -- loop
    refine wpBlock ?_
    refine wpLoopS [10, 11, 12, 13, 58, 59, 60, 61, 62, 63, 64, 65, 66, 67, 68, 69, 70, 71, 72, 73, 74, 75, 76, 77, 78] (fun z : Nat × List Int => [(58, .int .i64 z.1)]) (fun z H' => z.1 ≤ o.length ∧ Ext Hd H' ∧ Own eInt 3 H' Hd.size (.slice (some ⟨g55, 0, none⟩) c.order.length c.order.length) z.2 ∧ z.2.length = c.n ∧ AtI c o z.1 0 z.2) (fun z => o.length - z.1) (0, List.replicate c.order.length 0) ⟨rfl, trivial⟩ ⟨Nat.zero_le _, hxe, ow, List.length_replicate, AtI.init _ _ _⟩ ?_
    clear ow hxe hgl
    rintro ⟨m, w⟩ J Hm ⟨hm, hxm, ow, hwl, hat⟩
    dsimp only at hm ow hwl hat
    refine wpSeq fun F14 hF14 => ?_
    refine wpRegion ?_
    refine seqQ rfl rfl (yLss rfl rfl rfl) ?_
    refine seqNil ?_
    refine hF14 _ _ ?_; clear hF14
    refine wpSeq fun F15 hF15 => ?_
    -- if t59
    refine wpIf rfl (fun hlt => ?_) (fun hlt => ?_)
    · skip
      have hml : m < o.length := by dsimp only at hlt; omega
      obtain ⟨q, eq, hq⟩ := (hdr.ext hxm).at hml
      refine wpSkip ?_
      refine hF15 _ _ ?_; clear hF15
      refine wpSeq fun F16 hF16 => ?_
      refine wpBlock ?_
      refine wpSeq fun F17 hF17 => ?_
      refine wpRegion ?_
      refine seqQ rfl rfl (yMove (v := .int _ _) rfl rfl) ?_
      refine seqQ rfl rfl (yIdxP rfl Try.underlying55 Try.sizeOf64 rfl rfl eq rfl hml) ?_
      refine seqQ rfl rfl (yLoadC (cs := ePl.F o[m]) rfl Try.underlying64 rfl Try.sizeOf64 rfl hq) ?_
      refine seqN rfl rfl (nAlloc rfl Try.zeroValue64 rfl) (fun g11 H11 hx11 hB11 hg11 hl11 => ?_)
      refine seqQ rfl rfl (yAssign (v := .int _ _) rfl rfl) ?_
      -- e slot None: store T64 t11 t62
      refine seqE0 rfl rfl (stepStoreB rfl (by kernel_rfl) rfl rfl rfl hB11 rfl ?_)
      intro Hn h11 hK11
      have hxn : Ext Hm Hn := hx11.mine hK11 (by simp; omega)
      clear hB11 hK11 hx11
      refine seqNil ?_
      refine hF17 _ _ ?_; clear hF17
      refine wpSeq fun F18 hF18 => ?_
      refine wpRegion ?_
      refine seqQ rfl rfl (yMove (v := .slice _ _ _) rfl rfl) ?_
      refine seqQ rfl rfl (yLen rfl Try.underlying55 rfl) ?_
      refine seqQ rfl rfl (yMove (v := .int _ _) rfl rfl) ?_
      refine seqNil ?_
      refine hF18 _ _ ?_; clear hF18
      -- loop
      refine wpBlock ?_
      refine wpLoopS [12, 13, 65, 66, 67, 68, 69, 70, 71, 72, 73, 74, 75, 76, 77] (fun z : Nat × List Int => [(65, .int .i64 z.1)]) (fun z H' => z.1 ≤ c.n ∧ Ext Hd H' ∧ Blk H' g11 (ePl.F o[m]) 64 ∧ Own eInt 3 H' Hd.size (.slice (some ⟨g55, 0, none⟩) c.order.length c.order.length) z.2 ∧ z.2.length = c.n ∧ AtI c o m z.1 z.2) (fun z => c.n - z.1) (0, w) ⟨rfl, trivial⟩ ⟨Nat.zero_le _, hxm.trans hxn, h11, ow.ext hxn, hwl, hat⟩ ?_
      have g55m := (ow.lt g55 rfl).2
      clear ow hat hwl h11
      rintro ⟨k, w⟩ J2 Hk ⟨hk, hxk, h11, ow, hwl, hat⟩
      dsimp only at hk ow hwl hat
      refine wpSeq fun F19 hF19 => ?_
      refine wpRegion ?_
      refine seqQ rfl rfl (yLss rfl rfl rfl) ?_
      refine seqNil ?_
      refine hF19 _ _ ?_; clear hF19
      refine wpSeq fun F20 hF20 => ?_
      -- if t66
      refine wpIf rfl (fun hlk => ?_) (fun hlk => ?_)
      · skip
        have hkn : k < c.n := by dsimp only at hlk; omega
        have hko : k < c.order.length := hkn
        obtain ⟨q2, eq2, hq2⟩ := (ro.ext hxk).at hko
        refine wpSkip ?_
        refine hF20 _ _ ?_; clear hF20
        refine wpSeq fun F21 hF21 => ?_
        refine wpBlock ?_
        refine wpSeq fun F22 hF22 => ?_
        refine wpRegion ?_
        refine seqQ rfl rfl (yMove (v := .int _ _) rfl rfl) ?_
        refine seqQ rfl rfl (yIdxP rfl Try.underlying55 Try.sizeOf64 rfl rfl eq2 rfl hko) ?_
        refine seqQ rfl rfl (yLoadC (cs := ePl.F c.order[k]) rfl Try.underlying64 rfl Try.sizeOf64 rfl hq2) ?_
        refine seqN rfl rfl (nAlloc rfl Try.zeroValue64 rfl) (fun g13 H13 hx13 hB13 hg13 hl13 => ?_)
        refine seqQ rfl rfl (yAssign (v := .int _ _) rfl rfl) ?_
        -- e slot None: store T64 t13 t69
        refine seqE0 rfl rfl (stepStoreB rfl (by kernel_rfl) rfl rfl rfl hB13 rfl ?_)
        intro Hj h13 hK13
        have hxj : Ext Hk Hj := hx13.mine hK13 (by simp; omega)
        clear hB13 hK13 hx13
        refine seqNil ?_
        refine hF22 _ _ ?_; clear hF22
        refine wpSeq fun F23 hF23 => ?_
        refine wpRegion ?_
        refine seqQ rfl rfl (yLoadB (h11.ext hxj) rfl Try.underlying64 rfl Try.sizeOf64 rfl) ?_
        refine seqQ rfl rfl (yLoadB h13 rfl Try.underlying64 rfl Try.sizeOf64 rfl) ?_
        refine seqQ rfl rfl (yEq_pl (a := o[m]) (b := c.order[k]) rfl rfl rfl) ?_
        refine seqNil ?_
        refine hF23 _ _ ?_; clear hF23
        -- if t72
        refine wpIf rfl (fun heq => ?_) (fun heq => ?_)
        · skip
          refine wpRegion ?_
          refine seqQ rfl rfl (yMove (v := .slice _ _ _) rfl rfl) ?_
          refine seqQ rfl rfl (yMove (v := .int _ _) rfl rfl) ?_
          refine seqQ rfl rfl (yMove (v := .int _ _) rfl rfl) ?_
          refine seqQ rfl rfl (yIdx1 rfl Try.underlying27 Try.sizeOf3 rfl rfl rfl hko) ?_
          -- e slot None: store T3 t76 t75
          refine seqE0 rfl rfl (stepStoreOwn (z := (m : Int)) (ow.ext hxj) rfl Try.sizeOf3 rfl rfl rfl rfl (by omega) ?_)
          intro Hs os hKs
          have hxs := (hxk.trans hxj).mine hKs (by have := (ow.lt g55 rfl).1; simp; exact this)
          refine seqNil ?_
          refine hF21 _ _ ?_; clear hF21
          refine wpRegion ?_
          refine seqQ rfl rfl (yAdd rfl rfl rfl (by unfold In64; omega)) ?_
          refine seqQ rfl rfl (yMove (v := .int _ _) rfl rfl) ?_
          refine seqNil ?_
          -- end loop
          exact loopEnd (k + 1, _) (by repeat (first | (with_reducible exact Agree.refl _ _) | refine Agree.upd ?_ rfl | refine Agree.over ?_ rfl)) (by dsimp only; omega) ⟨rfl, trivial⟩ ⟨hkn, hxs, (h11.ext hxj).keep hKs (by simp; omega), os, by dsimp only; rw [List.length_set]; exact hwl, hat.yes hnd hml hwl hkn (heq.trans (at_getElem hko))⟩
        · skip
          refine wpSkip ?_
          refine hF21 _ _ ?_; clear hF21
          refine wpRegion ?_
          refine seqQ rfl rfl (yAdd rfl rfl rfl (by unfold In64; omega)) ?_
          refine seqQ rfl rfl (yMove (v := .int _ _) rfl rfl) ?_
          refine seqNil ?_
          -- end loop
          exact loopEnd (k + 1, w) (by repeat (first | (with_reducible exact Agree.refl _ _) | refine Agree.upd ?_ rfl | refine Agree.over ?_ rfl)) (by dsimp only; omega) ⟨rfl, trivial⟩ ⟨hkn, hxk.trans hxj, h11.ext hxj, ow.ext hxj, hwl, hat.no hml (fun e => heq (e.trans (at_getElem hko).symm))⟩
      · skip
        obtain rfl : k = c.n := by dsimp only at hlk; omega
        refine wpExit ?_
        refine hF16 _ _ ?_; clear hF16
        refine wpRegion ?_
        refine seqQ rfl rfl (yAdd rfl rfl rfl (by unfold In64; omega)) ?_
        refine seqQ rfl rfl (yMove (v := .int _ _) rfl rfl) ?_
        refine seqNil ?_
        -- end loop
        exact loopEnd (m + 1, w) (by repeat (first | (with_reducible exact Agree.refl _ _) | refine Agree.upd ?_ rfl | refine Agree.over ?_ rfl)) (by dsimp only; omega) ⟨rfl, trivial⟩ ⟨hml, hxk, ow, hwl, hat.next⟩
    · skip
      obtain rfl : m = o.length := by dsimp only at hlt; omega
      replace cm := cm.ext hxm
      replace hE := hE.trans hxm
      have hle := fun {i k} (hi : i < c.n) (hk : c.bf i k) => hat.le ci hin hbo hi hk
      have rw_ := (Own.rd ow).2
      have hhl : hs.length = c.n := by rw [cm.brd.1, ci.bl]
      have hwl2 : c.order.length = w.length := hwl.symm
      clear ow oo
      refine wpExit ?_
      refine hF12 _ _ ?_; clear hF12
      refine wpSeq fun F24 hF24 => ?_
      refine wpSeq fun F25 hF25 => ?_
      refine wpRegion ?_
      refine seqQ rfl rfl (yMove (v := .slice _ _ _) rfl rfl) ?_
      refine seqQ rfl rfl (yLen rfl Try.underlying66 rfl) ?_
      refine seqQ rfl rfl (yMove (v := .int _ _) rfl rfl) ?_
      refine seqNil ?_
      refine hF25 _ _ ?_; clear hF25
      -- loop
      refine wpBlock ?_
      refine wpLoopS [2, 14, 15, 81, 82, 83, 84, 85, 86, 87, 88, 89, 90, 91, 92, 93, 94, 95, 96, 97, 98, 99, 100, 101, 102, 103, 104, 105, 106, 107] (fun i : Nat => [(81, .int .i64 i)]) (fun i H' => i ≤ c.n ∧ H' = Hm) (fun i => c.n - i) 0 ⟨rfl, trivial⟩ ⟨Nat.zero_le _, rfl⟩ ?_
      rintro i J3 Hi ⟨hi2, e⟩
      obtain rfl := e.symm
      clear e
      refine wpSeq fun F26 hF26 => ?_
      refine wpRegion ?_
      refine seqQ rfl rfl (yLss rfl rfl rfl) ?_
      refine seqNil ?_
      refine hF26 _ _ ?_; clear hF26
      refine wpSeq fun F27 hF27 => ?_
      -- if t82
      refine wpIf rfl (fun hli => ?_) (fun hli => ?_)
      · skip
        have hil : i < c.n := by omega
        refine wpSkip ?_
        refine hF27 _ _ ?_; clear hF27
        refine wpSeq fun F28 hF28 => ?_
        refine wpBlock ?_
        refine wpSeq fun F29 hF29 => ?_
        refine wpRegion ?_
        refine seqQ rfl rfl (yMove (v := .int _ _) rfl rfl) ?_
        refine seqQ rfl rfl (yAssign (v := .int _ _) rfl rfl) ?_
        refine seqNil ?_
        refine hF29 _ _ ?_; clear hF29
        refine wpSeq fun F30 hF30 => ?_
        refine wpRegion ?_
        refine seqQ rfl rfl (yMove (v := .int _ _) rfl rfl) ?_
        refine seqQ rfl rfl (yMove (v := .int _ _) rfl rfl) ?_
        refine seqNil ?_
        refine hF30 _ _ ?_; clear hF30
        -- loop
        refine wpBlock ?_
        refine wpLoopS [2, 15, 85, 86, 87, 88, 89, 90, 91, 92, 93, 94, 95, 96, 97, 98, 99, 100, 101, 102, 103, 104, 105, 106] (fun k : Nat => [(85, .int .i64 k)]) (fun k H' => k ≤ i ∧ H' = Hm) (fun k => i - k) 0 ⟨rfl, trivial⟩ ⟨Nat.zero_le _, rfl⟩ ?_
        rintro k J4 Hk ⟨hk, e⟩
        obtain rfl := e.symm
        clear e
        refine wpSeq fun F31 hF31 => ?_
        refine wpRegion ?_
        refine seqQ rfl rfl (yLss rfl rfl rfl) ?_
        refine seqNil ?_
        refine hF31 _ _ ?_; clear hF31
        refine wpSeq fun F32 hF32 => ?_
        -- if t86
        refine wpIf rfl (fun hlk => ?_) (fun hlk => ?_)
        · skip
          have hki : k < i := by omega
          have hkb : i < c.before.length := by rw [ci.bl]; exact hil
          have hkh : i < hs.length := by omega
          obtain ⟨hrl, hrd⟩ := cm.brd.2 i hs[i] c.before[i] (List.getElem?_eq_getElem hkh) (List.getElem?_eq_getElem hkb)
          have hbk := ci.brow i hil
          rw [getD_lt hkb] at hbk
          obtain ⟨qb, eqb, hqb⟩ := (Own.rd (cm.bef _ hvb)).2.at1 hkh
          obtain ⟨qr, eqr, hqr⟩ := hrd.rd.at1 (show k < c.before[i].length by omega)
          have hval : c.before[i][k] = (c.before.getD i []).getD k false := by rw [getD_lt hkb, getD_lt (show k < c.before[i].length by omega)]
          rw [hval] at hqr
          generalize hs[i] = hd at *
          rw [hbk] at hrl
          obtain ⟨h1, h2, h3⟩ := hd
          dsimp only at hrl eqr
          subst hrl
          obtain ⟨q1, eq1, hq1⟩ := rw_.at1 (show k < w.length by omega)
          obtain ⟨q3, eq3, hq3⟩ := rw_.at1 (show i < w.length by omega)
          refine wpSkip ?_
          refine hF32 _ _ ?_; clear hF32
          refine wpSeq fun F33 hF33 => ?_
          refine wpBlock ?_
          refine wpSeq fun F34 hF34 => ?_
          refine wpRegion ?_
          refine seqQ rfl rfl (yMove (v := .int _ _) rfl rfl) ?_
          refine seqQ rfl rfl (yAssign (v := .int _ _) rfl rfl) ?_
          refine seqNil ?_
          refine hF34 _ _ ?_; clear hF34
          refine wpSeq fun F35 hF35 => ?_
          refine wpRegionD Try_mixed [.q, .q, .q, .q, .q, .q, .q, .q, .q, .q, .q, .q, .q, .q, .q, .q, .q, .q] 16 [0, 0, 3, 7, 0, 31, 63, 127, 255, 255, 1023, 2047, 255, 255, 12543, 28927, 65535, 131071] [] (by kernel_rfl) _ rfl [0, 1, 2, 3, 4, 5, 6, 7, 8, 9, 10, 11, 12, 13, 14, 15] rfl (by simp) ?_
          refine lexQ rfl rfl rfl rfl (fun H hM => (yMove (v := .slice _ _ _) rfl rfl)) ?_
          refine lexQ rfl rfl rfl rfl (fun H hM => (yMove (v := .int _ _) rfl rfl)) ?_
          refine lexQ rfl rfl rfl rfl (fun H hM => (yIdxP1 rfl Try.underlying66 Try.sizeOf69 rfl rfl eqb rfl hkh)) ?_
          refine lexQ rfl rfl rfl rfl (fun H hM => (yLoad rfl Try.underlying69 rfl rfl (hM.ext.cell (show cellH Hm _ = some (.slice h1 (i + 1) h3) from hqb)))) ?_
          refine lexQ rfl rfl rfl rfl (fun H hM => (yMove (v := .int _ _) rfl rfl)) ?_
          refine lexQ rfl rfl rfl rfl (fun H hM => (yIdxP1 rfl Try.underlying69 Try.sizeOf4 rfl rfl eqr rfl (show k < i + 1 by omega))) ?_
          refine lexQ rfl rfl rfl rfl (fun H hM => (yLoad rfl Try.underlying4 rfl rfl (hM.ext.cell (show cellH Hm _ = some (.bool ((c.before.getD i []).getD k false)) from hqr)))) ?_
          -- guard t95
          cases hbb : (c.before.getD i []).getD k false
          · skip
            refine lexQ rfl rfl rfl rfl (fun H hM => (yMove (v := .bool false) rfl rfl)) ?_
            refine lexU rfl rfl rfl ?_
            refine lexU rfl rfl rfl ?_
            refine lexU rfl rfl rfl ?_
            refine lexU rfl rfl rfl ?_
            refine lexU rfl rfl rfl ?_
            refine lexU rfl rfl rfl ?_
            refine lexU rfl rfl rfl ?_
            refine lexU rfl rfl rfl ?_
            -- tail
            refine lexNil0 rfl (fun hM => ?_)
            refine seqU rfl rfl ?_
            refine seqQ rfl rfl (yPickF (v := .bool _) rfl rfl rfl) ?_
            refine seqNil ?_
            refine hF35 _ _ ?_; clear hF35
            -- if t105
            refine wpF rfl ?_
            refine wpSkip ?_
            refine hF33 _ _ ?_; clear hF33
            refine wpRegion ?_
            refine seqQ rfl rfl (yAdd rfl rfl rfl (by unfold In64; omega)) ?_
            refine seqQ rfl rfl (yMove (v := .int _ _) rfl rfl) ?_
            refine seqNil ?_
            -- end loop
            exact loopEnd (k + 1) (by repeat (first | (with_reducible exact Agree.refl _ _) | refine Agree.upd ?_ rfl | refine Agree.over ?_ rfl)) (by omega) ⟨rfl, trivial⟩ ⟨hki, rfl⟩
          · skip
            have hlw := hle hil (show c.bf i k from hbb)
            rw [getD_lt (show k < w.length by omega), getD_lt (show i < w.length by omega)] at hlw
            refine lexQ rfl rfl rfl rfl (fun H hM => (yMove (v := .bool true) rfl rfl)) ?_
            refine lexQ rfl rfl rfl rfl (fun H hM => (yMove (v := .slice _ _ _) rfl rfl)) ?_
            refine lexQ rfl rfl rfl rfl (fun H hM => (yMove (v := .int _ _) rfl rfl)) ?_
            refine lexQ rfl rfl rfl rfl (fun H hM => (yIdxP1 rfl Try.underlying27 Try.sizeOf3 rfl rfl eq1 rfl (show k < c.order.length by omega))) ?_
            refine lexQ rfl rfl rfl rfl (fun H hM => (yLoad rfl Try.underlying3 rfl rfl (hM.ext.cell (show cellH Hm _ = some (.int .i64 w[k]) from hq1)))) ?_
            refine lexQ rfl rfl rfl rfl (fun H hM => (yMove (v := .slice _ _ _) rfl rfl)) ?_
            refine lexQ rfl rfl rfl rfl (fun H hM => (yMove (v := .int _ _) rfl rfl)) ?_
            refine lexQ rfl rfl rfl rfl (fun H hM => (yIdxP1 rfl Try.underlying27 Try.sizeOf3 rfl rfl eq3 rfl (show i < c.order.length by omega))) ?_
            refine lexQ rfl rfl rfl rfl (fun H hM => (yLoad rfl Try.underlying3 rfl rfl (hM.ext.cell (show cellH Hm _ = some (.int .i64 w[i]) from hq3)))) ?_
            -- tail
            refine lexNil0 rfl (fun hM => ?_)
            refine seqQ rfl rfl (yGtr rfl rfl rfl) ?_
            refine seqQ rfl rfl (yPickT (v := .bool _) rfl rfl rfl) ?_
            refine seqNil ?_
            refine hF35 _ _ ?_; clear hF35
            -- if t105
            rw [show decide (w[k] > w[i]) = false from decide_eq_false (by omega)]
            refine wpF rfl ?_
            refine wpSkip ?_
            refine hF33 _ _ ?_; clear hF33
            refine wpRegion ?_
            refine seqQ rfl rfl (yAdd rfl rfl rfl (by unfold In64; omega)) ?_
            refine seqQ rfl rfl (yMove (v := .int _ _) rfl rfl) ?_
            refine seqNil ?_
            -- end loop
            exact loopEnd (k + 1) (by repeat (first | (with_reducible exact Agree.refl _ _) | refine Agree.upd ?_ rfl | refine Agree.over ?_ rfl)) (by omega) ⟨rfl, trivial⟩ ⟨hki, rfl⟩
        · skip
          refine wpExit ?_
          refine hF28 _ _ ?_; clear hF28
          refine wpRegion ?_
          refine seqQ rfl rfl (yAdd rfl rfl rfl (by unfold In64; omega)) ?_
          refine seqQ rfl rfl (yMove (v := .int _ _) rfl rfl) ?_
          refine seqNil ?_
          -- end loop
          exact loopEnd (i + 1) (by repeat (first | (with_reducible exact Agree.refl _ _) | refine Agree.upd ?_ rfl | refine Agree.over ?_ rfl)) (by omega) ⟨rfl, trivial⟩ ⟨hil, rfl⟩
      · skip
        refine wpExit ?_
        refine hF24 _ _ ?_; clear hF24
        refine wpSeq fun F36 hF36 => ?_
        refine wpSeq fun F37 hF37 => ?_
        refine wpRegion ?_
        refine seqQ rfl rfl (yMove (v := .slice _ _ _) rfl rfl) ?_
        refine seqQ rfl rfl (yLen rfl Try.underlying36 rfl) ?_
        refine seqQ rfl rfl (yMove (v := .int _ _) rfl rfl) ?_
        refine seqNil ?_
        refine hF37 _ _ ?_; clear hF37
        -- loop
        refine wpBlock ?_
        refine wpLoopS [2, 16, 110, 111, 112, 113, 114, 115, 116, 117, 118, 119, 120] (fun r : Nat => [(110, .int .i64 r)]) (fun r H' => r ≤ 4 ∧ Ext Hm H') (fun r => 4 - r) 0 ⟨rfl, trivial⟩ ⟨Nat.zero_le _, Ext.refl _⟩ ?_
        rintro r J5 Hr ⟨hr, hxr⟩
        refine wpSeq fun F38 hF38 => ?_
        refine wpRegion ?_
        refine seqQ rfl rfl (yLss rfl rfl rfl) ?_
        refine seqNil ?_
        refine hF38 _ _ ?_; clear hF38
        refine wpSeq fun F39 hF39 => ?_
        -- if t111
        refine wpIf rfl (fun hlr => ?_) (fun hlr => ?_)
        · skip
          have hr4 : r < 4 := by omega
          have cmr := cm.ext hxr
          obtain ⟨L, hL1, hL2, hL3⟩ := cmr.at_ hr4
          have hlg := rd_at cmr.logs hL1
          refine wpSkip ?_
          refine hF39 _ _ ?_; clear hF39
          refine wpSeq fun F40 hF40 => ?_
          refine wpBlock ?_
          refine wpSeq fun F41 hF41 => ?_
          refine wpRegion ?_
          refine seqQ rfl rfl (yMove (v := .int _ _) rfl rfl) ?_
          refine seqQ rfl rfl (yAssign (v := .int _ _) rfl rfl) ?_
          refine seqNil ?_
          refine hF41 _ _ ?_; clear hF41
          refine wpSeq fun F42 hF42 => ?_
          refine wpRegion ?_
          refine seqQ rfl rfl (yMove (v := .slice _ _ _) rfl rfl) ?_
          refine seqQ rfl rfl (yMove (v := .int _ _) rfl rfl) ?_
          refine seqQ rfl rfl (yIdx1 rfl Try.underlying36 Try.sizeOf35 rfl rfl rfl hr4) ?_
          refine seqQ rfl rfl (yLoad rfl Try.underlying35 rfl rfl (show cellH Hr _ = some (.slice L.A L.l.length L.c) from hlg)) ?_
          refine seqQ rfl rfl (yMove (v := .int _ _) rfl rfl) ?_
          -- e slot 118: call F17<farandole/log.Valid> t116 t117 [i:i64:4]
          refine seqE rfl rfl (stepCall rfl Try.call17 rfl ?_)
          refine (logValid_c L.l L.A L.c r 4 Hr ((cmr.rdLogs ci.lab).2 L hL2) (ci.sm hr4 hL3)).mono ?_
          rintro v Hv ⟨rfl, xv⟩
          rw [hL3, decide_eq_true (ci.val r hr4)]
          refine seqQ rfl rfl (yNot rfl rfl) ?_
          refine seqNil ?_
          refine hF42 _ _ ?_; clear hF42
          -- if t119
          refine wpF rfl ?_
          refine wpSkip ?_
          refine hF40 _ _ ?_; clear hF40
          refine wpRegion ?_
          refine seqQ rfl rfl (yAdd rfl rfl rfl (by unfold In64; omega)) ?_
          refine seqQ rfl rfl (yMove (v := .int _ _) rfl rfl) ?_
          refine seqNil ?_
          -- end loop
          exact loopEnd (r + 1) (by repeat (first | (with_reducible exact Agree.refl _ _) | refine Agree.upd ?_ rfl | refine Agree.over ?_ rfl)) (by omega) ⟨rfl, trivial⟩ ⟨hr4, hxr.trans xv⟩
        · skip
          refine wpExit ?_
          refine hF36 _ _ ?_; clear hF36
          refine wpSeq fun F43 hF43 => ?_
          refine wpRegion ?_
          refine seqQ rfl rfl (yAssign (v := .bool _) rfl rfl) ?_
          refine seqNil ?_
          refine hF43 _ _ ?_; clear hF43
          -- ret
          refine wpRet (fin1 (v := .bool _) rfl rfl ?_)
          exact ⟨rfl, hE.trans hxr⟩
set_option maxRecDepth 100000 in
set_option maxRecDepth 100000 in
theorem logRecord_lifted (os : Os) (started : os.Started) (H : Type) (enc : TypeId × Value → H) :
    ReturnsInHanded {} Try.checked os 5 .any (Rows.logRecordSpec.pre6 enc Try.prog Try.f5 Rows.logRecordRow.domain false) (Rows.logRecordSpec.post enc Try.prog Try.f5 false true false false) := by
  refine law_lifted started Rows.logRecordSpec rfl (by kernel_rfl) Try.func5 rfl
    (fun ds h => by match ds, h with | [_], _ => rfl) (of_decide_eq_true (by kernel_rfl))
    (ChangeSpec.witness6 (enc := enc) (C := Try.checked) false ⟨#[], #[.slice none 0 0], []⟩ 8 (by kernel_rfl) (by kernel_rfl) (by kernel_rfl) (by kernel_rfl)) ?_
  intro W base args ds p hval hA
  rw [Try.params5] at hA hval
  obtain ⟨v0, d0, rfl, rfl, h0⟩ := trodAll_one hA
  have g0 := hval 0 _ v0 rfl rfl
  obtain ⟨⟨A, ca, l⟩, rfl, kA, -⟩ := (opn_acts W).one (one_slice Try.underlying65 g0) h0
  exact record_walk l A ca W.heap kA
set_option maxRecDepth 100000 in
theorem logRecord_holds : Rows.LogRecordSaid :=
  OpenClaim.holds_of_wide 5 Try.f5 rfl rfl rfl rfl rfl rfl rfl ⟨rfl, rfl, rfl, rfl, rfl⟩ rfl rfl rfl rfl rfl (by kernel_rfl) Try.func5 (by kernel_rfl)
    (of_decide_eq_true (by kernel_rfl)) (by unfold Func.isWrapper; first | (rw [if_pos (by decide +kernel)]; kernel_rfl) | (rw [if_neg (by decide +kernel)]; exact ⟨rfl, rfl⟩))
    (fun os started H enc _ => logRecord_lifted os started H enc)
end Go.Proofs.Ytbanngdijmglbaa
