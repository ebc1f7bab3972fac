/- Logs: Receive; the document's Send and Receive. -/
import Derived.Test.YtbanngdijmglbaaM6
namespace Go.Proofs.Ytbanngdijmglbaa
open Go.RowKit

set_option maxRecDepth 100000 in
theorem receiveL_c (l : List EH) (A : Option Addr) (ca : Nat) (role roles : Int) (e : Evt) (VA : Option Addr) (vc : Nat) (m : List Int) (MA : Option Addr) (mc : Nat) (H : Heap) (h : LogRd H A l) (hs : LogSm l) (hv : Rd eWV H VA e.values) (hvl : e.values.length ≤ 100000) (hm : Rd eInt H MA m) (hml' : m.length ≤ 100000) :
    CallsH Try.prog 15 [.slice A l.length ca, .int .i64 role, .int .i64 roles, .agg (evC e VA vc).toArray, .slice MA m.length mc] H fun v H' => ∃ B cb l', v = .tuple #[.slice B (List.length (α := EH) l') cb, .int .i64 (recvL (l.map EH.ent) role roles e m).1] ∧ LogOwn H.size 72 H' (.slice B l'.length cb) l' ∧ l'.map EH.ent = (recvL (l.map EH.ent) role roles e m).2 ∧ Ext H H' := by
  have hml : (l.map EH.ent).length = l.length := List.length_map _
  refine callsH_of Try.func15 rfl Try.ntmps15 (Nat.le_of_ble_eq_true rfl) ?_
  refine wpSeq fun F1 hF1 => ?_
  refine wpRegion ?_
  refine seqN rfl rfl (nBoxA rfl rfl) (fun g8 H8 hx8 hB8 hg8 hl8 => ?_)
  refine seqQ rfl rfl (yAssign (v := .slice _ _ _) rfl rfl) ?_
  refine seqQ rfl rfl (yAssign (v := .int _ _) rfl rfl) ?_
  refine seqNil ?_
  refine hF1 _ _ ?_; clear hF1
  refine wpSeq fun F2 hF2 => ?_
  refine wpSeq fun F3 hF3 => ?_
  refine wpRegion ?_
  refine seqQ rfl rfl (yMove (v := .slice _ _ _) rfl rfl) ?_
  refine seqQ rfl rfl (yMove (v := .int _ _) rfl rfl) ?_
  refine seqQ rfl rfl (yMove (v := .int _ _) rfl rfl) ?_
  -- e slot 17: call F17<farandole/log.Valid> t14 t15 t16
  refine seqE rfl rfl (stepCall rfl Try.call17 rfl ?_)
  refine (logValid_c l A ca role roles H8 (h.ext hx8) hs).mono ?_
  rintro v H1 ⟨rfl, x1⟩
  have hE := hx8.trans x1
  refine seqQ rfl rfl (yNot rfl rfl) ?_
  -- guard t19
  refine seqGB rfl rfl rfl rfl (fun hV => ?_) (fun hV => ?_)
  · skip
    have hV : ¬ ValidLog (l.map EH.ent) role roles := by simpa using hV
    refine seqU rfl rfl ?_
    refine seqU rfl rfl ?_
    refine seqU rfl rfl ?_
    refine seqU rfl rfl ?_
    refine seqU rfl rfl ?_
    refine seqQ rfl rfl (yPickT (v := .bool _) rfl rfl rfl) ?_
    refine seqQ rfl rfl (yMove (v := .bool true) rfl rfl) ?_
    refine seqU rfl rfl ?_
    refine seqU rfl rfl ?_
    refine seqQ rfl rfl (yPickT (v := .bool _) rfl rfl rfl) ?_
    refine seqNil ?_
    refine hF3 _ _ ?_; clear hF3
    -- if t29
    refine wpT rfl ?_
    refine wpSeq fun F4 hF4 => ?_
    refine wpRegion ?_
    refine seqQ rfl rfl (yAssign (v := .slice _ _ _) rfl rfl) ?_
    refine seqQ rfl rfl (yAssign (v := .int _ _) rfl rfl) ?_
    refine seqNil ?_
    refine hF4 _ _ ?_; clear hF4
    -- ret
    refine wpRet (fin2 (v := .slice _ _ _) (v' := .int _ _) rfl rfl rfl ?_)
    rw [recvL_bad (fun h => hV h.1)]
    exact ⟨none, 0, [], rfl, LogOwn.nil _ _ _, rfl, hE⟩
  · skip
    have hV : ValidLog (l.map EH.ent) role roles := by simpa using hV
    refine seqQ rfl rfl (yLoadB (hB8.ext x1) rfl Try.underlying26 rfl Try.sizeOf26 rfl) ?_
    refine seqQ rfl rfl (yMove (v := .int _ _) rfl rfl) ?_
    refine seqQ rfl rfl (yMove (v := .int _ _) rfl rfl) ?_
    -- e slot 23: call F35<farandole/log.stands> t20 t21 t22
    refine seqE rfl rfl (stepCall rfl Try.call35 rfl ?_)
    refine (stands_c e VA vc role roles H1).mono ?_
    rintro v H2 ⟨rfl, x2⟩
    replace hE := hE.trans x2
    have h7 := (hB8.ext x1).ext x2
    clear x1 x2 hB8
    refine seqQ rfl rfl (yNot rfl rfl) ?_
    refine seqQ rfl rfl (yPickF (v := .bool _) rfl rfl rfl) ?_
    -- guard t26
    refine seqGB rfl rfl rfl rfl (fun hS => ?_) (fun hS => ?_)
    · skip
      have hS : ¬ standsE e role roles := by simpa using hS
      refine seqU rfl rfl ?_
      refine seqU rfl rfl ?_
      refine seqQ rfl rfl (yPickT (v := .bool _) rfl rfl rfl) ?_
      refine seqNil ?_
      refine hF3 _ _ ?_; clear hF3
      -- if t29
      refine wpT rfl ?_
      refine wpSeq fun F5 hF5 => ?_
      refine wpRegion ?_
      refine seqQ rfl rfl (yAssign (v := .slice _ _ _) rfl rfl) ?_
      refine seqQ rfl rfl (yAssign (v := .int _ _) rfl rfl) ?_
      refine seqNil ?_
      refine hF5 _ _ ?_; clear hF5
      -- ret
      refine wpRet (fin2 (v := .slice _ _ _) (v' := .int _ _) rfl rfl rfl ?_)
      rw [recvL_bad (fun h => hS h.2.1)]
      exact ⟨none, 0, [], rfl, LogOwn.nil _ _ _, rfl, hE⟩
    · skip
      have hS : standsE e role roles := by simpa using hS
      refine seqQ rfl rfl (yFieldAddr rfl Try.underlying26 rfl Try.sizeOf4 rfl rfl) ?_
      refine seqQ rfl rfl (yLoad rfl Try.underlying4 rfl rfl (h7.cell rfl)) ?_
      refine seqQ rfl rfl (yPickF (v := .bool _) rfl rfl rfl) ?_
      refine seqNil ?_
      refine hF3 _ _ ?_; clear hF3
      -- if t29
      refine wpCond rfl (fun hD => ?_) (fun hD => ?_)
      · skip
        refine wpSeq fun F6 hF6 => ?_
        refine wpRegion ?_
        refine seqQ rfl rfl (yAssign (v := .slice _ _ _) rfl rfl) ?_
        refine seqQ rfl rfl (yAssign (v := .int _ _) rfl rfl) ?_
        refine seqNil ?_
        refine hF6 _ _ ?_; clear hF6
        -- ret
        refine wpRet (fin2 (v := .slice _ _ _) (v' := .int _ _) rfl rfl rfl ?_)
        rw [recvL_bad (fun h => by rw [h.2.2] at hD; cases hD)]
        exact ⟨none, 0, [], rfl, LogOwn.nil _ _ _, rfl, hE⟩
      · skip
        have hA := And.intro hV (And.intro hS hD)
        obtain ⟨hr, hr2, hlm, -⟩ := hV
        rw [hml] at hlm
        refine wpSkip ?_
        refine hF2 _ _ ?_; clear hF2
        refine wpSeq fun F7 hF7 => ?_
        refine wpRegion ?_
        refine seqQ rfl rfl (yMove (v := .slice _ _ _) rfl rfl) ?_
        refine seqQ rfl rfl (yMove (v := .int _ _) rfl rfl) ?_
        -- e slot 33: call F37<farandole/log.last> t31 t32
        refine seqE rfl rfl (stepCall rfl Try.call37 rfl ?_)
        refine (last_c l A ca roles H2 (h.1.ext hE) hr hlm (fun x hx => ((h.2 x hx).ext hE).2)).mono ?_
        rintro v H3 ⟨L, lc, rfl, rL, x3⟩
        replace hE := hE.trans x3
        replace h7 := h7.ext x3
        clear x3
        refine seqQ rfl rfl (yMove (v := .slice _ _ _) rfl rfl) ?_
        refine seqQ rfl rfl (yMove (v := .int _ _) rfl rfl) ?_
        -- e slot 36: call F43<farandole/vclock.Receive> t33 t34 t35
        refine seqE rfl rfl (stepCall rfl Try.call43 rfl ?_)
        refine (receive_c L MA lc mc _ m role H3 rL (hm.ext hE) (by have := lastC_sm hs hr.2; omega) (by omega)).mono ?_
        rintro v H4 ⟨x4, s, rfl, oT⟩
        replace h7 := h7.ext x4
        have zE := hE.size
        replace hE := hE.trans x4
        obtain ⟨T, tc, rfl, -⟩ := oT.form
        clear x4 rL
        refine seqQ rfl rfl (yMove (v := .tuple _) rfl rfl) ?_
        refine seqQ rfl rfl (yExtract (v := .slice _ _ _) rfl rfl rfl) ?_
        refine seqQ rfl rfl (yExtract (v := .int _ _) rfl rfl rfl) ?_
        refine seqQ rfl rfl (yAssign (v := .slice _ _ _) rfl rfl) ?_
        refine seqQ rfl rfl (yAssign (v := .int _ _) rfl rfl) ?_
        refine seqNil ?_
        refine hF7 _ _ ?_; clear hF7
        refine wpSeq fun F8 hF8 => ?_
        refine wpSeq fun F9 hF9 => ?_
        refine wpRegion ?_
        refine seqQ rfl rfl (yMove (v := .int _ _) rfl rfl) ?_
        refine seqQ rfl rfl (yNeq rfl rfl rfl) ?_
        refine seqNil ?_
        refine hF9 _ _ ?_; clear hF9
        -- if t40
        refine wpCond rfl (fun hT => ?_) (fun hT => ?_)
        · skip
          have hT : ¬ (receiveF (lastC (l.map EH.ent) roles) m role).1 = 0 := by simpa using hT
          refine wpSeq fun F10 hF10 => ?_
          refine wpRegion ?_
          refine seqQ rfl rfl (yMove (v := .int _ _) rfl rfl) ?_
          refine seqQ rfl rfl (yAssign (v := .slice _ _ _) rfl rfl) ?_
          refine seqQ rfl rfl (yAssign (v := .int _ _) rfl rfl) ?_
          refine seqNil ?_
          refine hF10 _ _ ?_; clear hF10
          -- ret
          refine wpRet (fin2 (v := .slice _ _ _) (v' := .int _ _) rfl rfl rfl ?_)
          rw [recvL_err hA hT]
          exact ⟨none, 0, [], rfl, LogOwn.nil _ _ _, rfl, hE⟩
        · skip
          have hT : (receiveF (lastC (l.map EH.ent) roles) m role).1 = 0 := by simpa using hT
          refine wpSkip ?_
          refine hF8 _ _ ?_; clear hF8
          refine wpSeq fun F11 hF11 => ?_
          refine wpSeq fun F12 hF12 => ?_
          refine wpRegion ?_
          refine seqQ rfl rfl (yMove (v := .slice _ _ _) rfl rfl) ?_
          refine seqQ rfl rfl (yLen rfl Try.underlying35 rfl) ?_
          refine seqQ rfl rfl (yGeq rfl rfl rfl) ?_
          refine seqNil ?_
          refine hF12 _ _ ?_; clear hF12
          -- if t44
          refine wpIf rfl (fun hlen => ?_) (fun hlen => ?_)
          · skip
            refine wpSeq fun F13 hF13 => ?_
            refine wpRegion ?_
            refine seqQ rfl rfl (yAssign (v := .slice _ _ _) rfl rfl) ?_
            refine seqQ rfl rfl (yAssign (v := .int _ _) rfl rfl) ?_
            refine seqNil ?_
            refine hF13 _ _ ?_; clear hF13
            -- ret
            refine wpRet (fin2 (v := .slice _ _ _) (v' := .int _ _) rfl rfl rfl ?_)
            rw [recvL_lim hA hT (by rw [hml]; omega)]
            exact ⟨none, 0, [], rfl, LogOwn.nil _ _ _, rfl, hE⟩
          · skip
            refine wpSkip ?_
            refine hF11 _ _ ?_; clear hF11
            refine wpSeq fun F14 hF14 => ?_
            refine wpRegion ?_
            refine seqQ rfl rfl (yMove (v := .slice _ _ _) rfl rfl) ?_
            refine seqQ rfl rfl (yLoadB h7 rfl Try.underlying26 rfl Try.sizeOf26 rfl) ?_
            refine seqQ rfl rfl (yMove (v := .slice _ _ _) rfl rfl) ?_
            -- e slot 48: call F38<farandole/log.added> t45 t46 t47
            refine seqE rfl rfl (stepCall rfl Try.call38 rfl ?_)
            refine (added_c l A ca e VA vc _ T tc H.size H4 (h.ext hE) hs (hv.ext hE) hvl hE.size (oT.mono zE)).mono ?_
            rintro v H5 ⟨l', lo, hmp, x5⟩
            obtain ⟨B, cb, rfl, -⟩ := lo.own.form
            refine seqQ rfl rfl (yAssign (v := .slice _ _ _) rfl rfl) ?_
            refine seqQ rfl rfl (yAssign (v := .int _ _) rfl rfl) ?_
            refine seqNil ?_
            refine hF14 _ _ ?_; clear hF14
            -- ret
            refine wpRet (fin2 (v := .slice _ _ _) (v' := .int _ _) rfl rfl rfl ?_)
            rw [recvL_ok hA hT (by rw [hml]; omega)]
            exact ⟨B, cb, l', rfl, lo, hmp, hE.trans x5⟩
set_option maxRecDepth 100000 in
theorem rsend_c (l : List EH) (A : Option Addr) (ca : Nat) (role roles : Int) (e : Evt) (VA : Option Addr) (vc : Nat) (H : Heap) (h : LogRd H A l) (hs : LogSm l) (hv : Rd eWV H VA e.values) (hvl : e.values.length ≤ 100000) :
    CallsH Try.prog 14 [.slice A l.length ca, .int .i64 role, .int .i64 roles, .agg (evC e VA vc).toArray] H fun v H' => ∃ B cb l', v = .tuple #[.slice B (List.length (α := EH) l') cb, .int .i64 (sendL (l.map EH.ent) role roles e).1] ∧ LogRd H' B l' ∧ l'.map EH.ent = (sendL (l.map EH.ent) role roles e).2 ∧ Ext H H' := by
  have hml : (l.map EH.ent).length = l.length := List.length_map _
  refine callsH_of Try.func14 rfl Try.ntmps14 (Nat.le_of_ble_eq_true rfl) ?_
  refine wpSeq fun F1 hF1 => ?_
  refine wpRegion ?_
  refine seqN rfl rfl (nBoxA rfl rfl) (fun g7 H7 hx7 hB7 hg7 hl7 => ?_)
  refine seqQ rfl rfl (yAssign (v := .slice _ _ _) rfl rfl) ?_
  refine seqQ rfl rfl (yAssign (v := .int _ _) rfl rfl) ?_
  refine seqNil ?_
  refine hF1 _ _ ?_; clear hF1
  refine wpSeq fun F2 hF2 => ?_
  refine wpSeq fun F3 hF3 => ?_
  refine wpRegion ?_
  refine seqQ rfl rfl (yMove (v := .slice _ _ _) rfl rfl) ?_
  refine seqQ rfl rfl (yMove (v := .int _ _) rfl rfl) ?_
  refine seqQ rfl rfl (yMove (v := .int _ _) rfl rfl) ?_
  -- e slot 15: call F18<farandole/farandoleref57.Valid> t12 t13 t14
  refine seqE rfl rfl (stepCall rfl Try.call18 rfl ?_)
  refine (rlogValid_c l A ca role roles H7 (h.ext hx7) hs).mono ?_
  rintro v H1 ⟨rfl, x1⟩
  have hE := hx7.trans x1
  refine seqQ rfl rfl (yNot rfl rfl) ?_
  -- guard t17
  refine seqGB rfl rfl rfl rfl (fun hV => ?_) (fun hV => ?_)
  · skip
    have hV : ¬ ValidLog (l.map EH.ent) role roles := by simpa using hV
    refine seqU rfl rfl ?_
    refine seqU rfl rfl ?_
    refine seqU rfl rfl ?_
    refine seqU rfl rfl ?_
    refine seqU rfl rfl ?_
    refine seqQ rfl rfl (yPickT (v := .bool _) rfl rfl rfl) ?_
    refine seqQ rfl rfl (yMove (v := .bool true) rfl rfl) ?_
    refine seqU rfl rfl ?_
    refine seqU rfl rfl ?_
    refine seqU rfl rfl ?_
    refine seqQ rfl rfl (yPickT (v := .bool _) rfl rfl rfl) ?_
    refine seqNil ?_
    refine hF3 _ _ ?_; clear hF3
    -- if t28
    refine wpT rfl ?_
    refine wpSeq fun F4 hF4 => ?_
    refine wpRegion ?_
    refine seqQ rfl rfl (yAssign (v := .slice _ _ _) rfl rfl) ?_
    refine seqQ rfl rfl (yAssign (v := .int _ _) rfl rfl) ?_
    refine seqNil ?_
    refine hF4 _ _ ?_; clear hF4
    -- ret
    refine wpRet (fin2 (v := .slice _ _ _) (v' := .int _ _) rfl rfl rfl ?_)
    rw [sendL_bad (fun h => hV h.1)]
    exact ⟨none, 0, [], rfl, LogRd.nil _ _, rfl, hE⟩
  · skip
    have hV : ValidLog (l.map EH.ent) role roles := by simpa using hV
    refine seqQ rfl rfl (yLoadB (hB7.ext x1) rfl Try.underlying26 rfl Try.sizeOf26 rfl) ?_
    refine seqQ rfl rfl (yMove (v := .int _ _) rfl rfl) ?_
    refine seqQ rfl rfl (yMove (v := .int _ _) rfl rfl) ?_
    -- e slot 21: call F39<farandole/farandoleref57.proper> t18 t19 t20
    refine seqE rfl rfl (stepCall rfl Try.call39 rfl ?_)
    refine (proper57_c e VA vc role roles H1).mono ?_
    rintro v H2 ⟨rfl, x2⟩
    replace hE := hE.trans x2
    have h7 := (hB7.ext x1).ext x2
    clear x1 x2 hB7
    refine seqQ rfl rfl (yNot rfl rfl) ?_
    refine seqQ rfl rfl (yPickF (v := .bool _) rfl rfl rfl) ?_
    -- guard t24
    refine seqGB rfl rfl rfl rfl (fun hS => ?_) (fun hS => ?_)
    · skip
      have hS : ¬ standsE e role roles := by simpa using hS
      refine seqU rfl rfl ?_
      refine seqU rfl rfl ?_
      refine seqU rfl rfl ?_
      refine seqQ rfl rfl (yPickT (v := .bool _) rfl rfl rfl) ?_
      refine seqNil ?_
      refine hF3 _ _ ?_; clear hF3
      -- if t28
      refine wpT rfl ?_
      refine wpSeq fun F5 hF5 => ?_
      refine wpRegion ?_
      refine seqQ rfl rfl (yAssign (v := .slice _ _ _) rfl rfl) ?_
      refine seqQ rfl rfl (yAssign (v := .int _ _) rfl rfl) ?_
      refine seqNil ?_
      refine hF5 _ _ ?_; clear hF5
      -- ret
      refine wpRet (fin2 (v := .slice _ _ _) (v' := .int _ _) rfl rfl rfl ?_)
      rw [sendL_bad (fun h => hS h.2.1)]
      exact ⟨none, 0, [], rfl, LogRd.nil _ _, rfl, hE⟩
    · skip
      have hS : standsE e role roles := by simpa using hS
      refine seqQ rfl rfl (yFieldAddr rfl Try.underlying26 rfl Try.sizeOf4 rfl rfl) ?_
      refine seqQ rfl rfl (yLoad rfl Try.underlying4 rfl rfl (h7.cell rfl)) ?_
      refine seqQ rfl rfl (yNot rfl rfl) ?_
      refine seqQ rfl rfl (yPickF (v := .bool _) rfl rfl rfl) ?_
      refine seqNil ?_
      refine hF3 _ _ ?_; clear hF3
      -- if t28
      refine wpCond rfl (fun hD => ?_) (fun hD => ?_)
      · skip
        have hD : ¬ e.send = true := by simpa using hD
        refine wpSeq fun F6 hF6 => ?_
        refine wpRegion ?_
        refine seqQ rfl rfl (yAssign (v := .slice _ _ _) rfl rfl) ?_
        refine seqQ rfl rfl (yAssign (v := .int _ _) rfl rfl) ?_
        refine seqNil ?_
        refine hF6 _ _ ?_; clear hF6
        -- ret
        refine wpRet (fin2 (v := .slice _ _ _) (v' := .int _ _) rfl rfl rfl ?_)
        rw [sendL_bad (fun h => hD h.2.2)]
        exact ⟨none, 0, [], rfl, LogRd.nil _ _, rfl, hE⟩
      · skip
        have hD : e.send = true := by simpa using hD
        have hA := And.intro hV (And.intro hS hD)
        obtain ⟨hr, hr2, hlm, -⟩ := hV
        rw [hml] at hlm
        refine wpSkip ?_
        refine hF2 _ _ ?_; clear hF2
        refine wpSeq fun F7 hF7 => ?_
        refine wpRegion ?_
        refine seqQ rfl rfl (yMove (v := .slice _ _ _) rfl rfl) ?_
        refine seqQ rfl rfl (yMove (v := .int _ _) rfl rfl) ?_
        -- e slot 32: call F41<farandole/farandoleref57.last> t30 t31
        refine seqE rfl rfl (stepCall rfl Try.call41 rfl ?_)
        refine (rlast_c l A ca roles H2 (h.1.ext hE) hr hlm (fun x hx => ((h.2 x hx).ext hE).2)).mono ?_
        rintro v H3 ⟨L, lc, rfl, rL, x3⟩
        replace hE := hE.trans x3
        replace h7 := h7.ext x3
        clear x3
        refine seqQ rfl rfl (yMove (v := .int _ _) rfl rfl) ?_
        -- e slot 34: call F40<farandole/farandoleref07.Tick> t32 t33
        refine seqE rfl rfl (stepCall rfl Try.call40 rfl ?_)
        refine (r7Tick_c L lc _ role H3 rL (by have := lastC_sm hs hr.2; omega)).mono ?_
        rintro v H4 ⟨x4, s, rfl, oT⟩
        replace h7 := h7.ext x4
        replace hE := hE.trans x4
        obtain ⟨T, tc, rfl, -⟩ := oT.form
        clear x4 rL
        refine seqQ rfl rfl (yMove (v := .tuple _) rfl rfl) ?_
        refine seqQ rfl rfl (yExtract (v := .slice _ _ _) rfl rfl rfl) ?_
        refine seqQ rfl rfl (yExtract (v := .int _ _) rfl rfl rfl) ?_
        refine seqQ rfl rfl (yAssign (v := .slice _ _ _) rfl rfl) ?_
        refine seqQ rfl rfl (yAssign (v := .int _ _) rfl rfl) ?_
        refine seqNil ?_
        refine hF7 _ _ ?_; clear hF7
        refine wpSeq fun F8 hF8 => ?_
        refine wpSeq fun F9 hF9 => ?_
        refine wpRegion ?_
        refine seqQ rfl rfl (yMove (v := .int _ _) rfl rfl) ?_
        refine seqQ rfl rfl (yNeq rfl rfl rfl) ?_
        -- guard t39
        refine seqGB rfl rfl rfl rfl (fun hT => ?_) (fun hT => ?_)
        · skip
          have hT : ¬ (tickF (lastC (l.map EH.ent) roles) role).1 = 0 := by simpa using hT
          refine seqU rfl rfl ?_
          refine seqU rfl rfl ?_
          refine seqU rfl rfl ?_
          refine seqQ rfl rfl (yPickT (v := .bool _) rfl rfl rfl) ?_
          refine seqNil ?_
          refine hF9 _ _ ?_; clear hF9
          -- if t43
          refine wpT rfl ?_
          refine wpSeq fun F10 hF10 => ?_
          refine wpRegion ?_
          refine seqQ rfl rfl (yAssign (v := .slice _ _ _) rfl rfl) ?_
          refine seqQ rfl rfl (yAssign (v := .int _ _) rfl rfl) ?_
          refine seqNil ?_
          refine hF10 _ _ ?_; clear hF10
          -- ret
          refine wpRet (fin2 (v := .slice _ _ _) (v' := .int _ _) rfl rfl rfl ?_)
          rw [sendL_lim hA (.inr hT)]
          exact ⟨none, 0, [], rfl, LogRd.nil _ _, rfl, hE⟩
        · skip
          have hT : (tickF (lastC (l.map EH.ent) roles) role).1 = 0 := by simpa using hT
          refine seqQ rfl rfl (yMove (v := .slice _ _ _) rfl rfl) ?_
          refine seqQ rfl rfl (yLen rfl Try.underlying23 rfl) ?_
          refine seqQ rfl rfl (yEql rfl rfl rfl) ?_
          refine seqQ rfl rfl (yPickF (v := .bool _) rfl rfl rfl) ?_
          refine seqNil ?_
          refine hF9 _ _ ?_; clear hF9
          -- if t43
          refine wpCond rfl (fun hlen => ?_) (fun hlen => ?_)
          · skip
            have hlen : (l.length : Int) = 1000 := by simp at hlen; omega
            refine wpSeq fun F11 hF11 => ?_
            refine wpRegion ?_
            refine seqQ rfl rfl (yAssign (v := .slice _ _ _) rfl rfl) ?_
            refine seqQ rfl rfl (yAssign (v := .int _ _) rfl rfl) ?_
            refine seqNil ?_
            refine hF11 _ _ ?_; clear hF11
            -- ret
            refine wpRet (fin2 (v := .slice _ _ _) (v' := .int _ _) rfl rfl rfl ?_)
            rw [sendL_lim hA (.inl (by rw [hml]; omega))]
            exact ⟨none, 0, [], rfl, LogRd.nil _ _, rfl, hE⟩
          · skip
            have hlen : ¬ (l.length : Int) = 1000 := by simp at hlen; omega
            refine wpSkip ?_
            refine hF8 _ _ ?_; clear hF8
            refine wpSeq fun F12 hF12 => ?_
            refine wpRegion ?_
            refine seqQ rfl rfl (yMove (v := .slice _ _ _) rfl rfl) ?_
            refine seqQ rfl rfl (yLoadB h7 rfl Try.underlying26 rfl Try.sizeOf26 rfl) ?_
            refine seqQ rfl rfl (yMove (v := .slice _ _ _) rfl rfl) ?_
            -- e slot 47: call F42<farandole/farandoleref57.with> t44 t45 t46
            refine seqE rfl rfl (stepCall rfl Try.call42 rfl ?_)
            refine (with_c l A ca e VA vc _ T tc H4 (h.ext hE) hs (hv.ext hE) hvl (Own.rd oT).2).mono ?_
            rintro v H5 ⟨B, cb, l', rfl, lo, hm, x5⟩
            refine seqQ rfl rfl (yAssign (v := .slice _ _ _) rfl rfl) ?_
            refine seqQ rfl rfl (yAssign (v := .int _ _) rfl rfl) ?_
            refine seqNil ?_
            refine hF12 _ _ ?_; clear hF12
            -- ret
            refine wpRet (fin2 (v := .slice _ _ _) (v' := .int _ _) rfl rfl rfl ?_)
            rw [sendL_ok hA (by rw [hml]; rintro (h | h); omega; exact h hT)]
            exact ⟨B, cb, l', rfl, lo, hm, hE.trans x5⟩
set_option maxRecDepth 100000 in
/-- A clock behind a received message: what can go wrong. -/
theorem tick_lim {c : List Int} {r : Int} (h : okC c = true) (hr : 0 ≤ r ∧ r < c.length) : (tickF c r).1 = 0 ∨ (tickF c r).1 = 6 := by
  unfold tickF
  rw [if_neg (by rw [h]; simp), if_neg (by omega)]
  split
  · exact .inr rfl
  · exact .inl rfl
set_option maxRecDepth 100000 in
theorem join_okC {a b : List Int} (h : (joinF a b).1 = 0) : okC (joinF a b).2 = true ∧ (joinF a b).2.length = a.length := by
  by_cases hc : okC a = true ∧ okC b = true ∧ a.length = b.length
  · rw [joinF_ok hc]
    show okC (List.zipWith max a b) = true ∧ (List.zipWith max a b).length = a.length
    obtain ⟨h1, h2, h3⟩ := hc
    obtain ⟨a1, a2, a3, a4⟩ := okC_of h1
    obtain ⟨b1, b2, b3, b4⟩ := okC_of h2
    have hz : (List.zipWith max a b).length = a.length := by rw [List.length_zipWith]; omega
    refine ⟨(okC_iff _).2 ⟨by omega, by omega, fun x hx => ?_, fun x hx => ?_⟩, hz⟩
    all_goals
      obtain ⟨i, hi, rfl⟩ := List.getElem_of_mem hx
      rw [List.getElem_zipWith]
      have h1 := a3 _ (List.getElem_mem (show i < a.length by omega))
      have h2 := b3 _ (List.getElem_mem (show i < b.length by omega))
      have h3 := a4 _ (List.getElem_mem (show i < a.length by omega))
      have h4 := b4 _ (List.getElem_mem (show i < b.length by omega))
      omega
  · rw [joinF_bad hc] at h
    cases h
set_option maxRecDepth 100000 in
theorem recvF_err {a b : List Int} {r : Int} (h : ¬ (joinF a b).1 = 0) : receiveF a b r = ((joinF a b).1, []) := if_neg h
set_option maxRecDepth 100000 in
theorem recvF_tick {a b : List Int} {r : Int} (h : (joinF a b).1 = 0) : receiveF a b r = tickF (joinF a b).2 r := if_pos h
set_option maxRecDepth 100000 in
theorem lastC_len {l : List Ent} {role roles : Int} (h : ValidLog l role roles) : ((lastC l roles).length : Int) = roles := by
  obtain ⟨hr, -, -, hk⟩ := h
  unfold lastC
  split
  · rw [List.length_replicate]
    omega
  · rename_i e he
    rw [List.getLast?_eq_getElem?] at he
    obtain ⟨hi, hi2⟩ := List.getElem?_eq_some_iff.1 he
    have := (hk (l.length - 1) (by omega)).2.2.1
    rw [List.getD_eq_getElem?_getD, he] at this
    exact this
set_option maxRecDepth 100000 in
theorem rreceiveL_c (l : List EH) (A : Option Addr) (ca : Nat) (role roles : Int) (e : Evt) (VA : Option Addr) (vc : Nat) (m : List Int) (MA : Option Addr) (mc : Nat) (H : Heap) (h : LogRd H A l) (hs : LogSm l) (hv : Rd eWV H VA e.values) (hvl : e.values.length ≤ 100000) (hm : Rd eInt H MA m) (hml' : m.length ≤ 100000) :
    CallsH Try.prog 16 [.slice A l.length ca, .int .i64 role, .int .i64 roles, .agg (evC e VA vc).toArray, .slice MA m.length mc] H fun v H' => ∃ B cb l', v = .tuple #[.slice B (List.length (α := EH) l') cb, .int .i64 (recvL (l.map EH.ent) role roles e m).1] ∧ LogRd H' B l' ∧ l'.map EH.ent = (recvL (l.map EH.ent) role roles e m).2 ∧ Ext H H' := by
  have hml : (l.map EH.ent).length = l.length := List.length_map _
  refine callsH_of Try.func16 rfl Try.ntmps16 (Nat.le_of_ble_eq_true rfl) ?_
  refine wpSeq fun F1 hF1 => ?_
  refine wpRegion ?_
  refine seqN rfl rfl (nBoxA rfl rfl) (fun g8 H8 hx8 hB8 hg8 hl8 => ?_)
  refine seqQ rfl rfl (yAssign (v := .slice _ _ _) rfl rfl) ?_
  refine seqQ rfl rfl (yAssign (v := .int _ _) rfl rfl) ?_
  refine seqNil ?_
  refine hF1 _ _ ?_; clear hF1
  refine wpSeq fun F2 hF2 => ?_
  refine wpSeq fun F3 hF3 => ?_
  refine wpRegion ?_
  refine seqQ rfl rfl (yMove (v := .slice _ _ _) rfl rfl) ?_
  refine seqQ rfl rfl (yMove (v := .int _ _) rfl rfl) ?_
  refine seqQ rfl rfl (yMove (v := .int _ _) rfl rfl) ?_
  -- e slot 18: call F18<farandole/farandoleref57.Valid> t15 t16 t17
  refine seqE rfl rfl (stepCall rfl Try.call18 rfl ?_)
  refine (rlogValid_c l A ca role roles H8 (h.ext hx8) hs).mono ?_
  rintro v H1 ⟨rfl, x1⟩
  have hE := hx8.trans x1
  refine seqQ rfl rfl (yNot rfl rfl) ?_
  -- guard t20
  refine seqGB rfl rfl rfl rfl (fun hV => ?_) (fun hV => ?_)
  · skip
    have hV : ¬ ValidLog (l.map EH.ent) role roles := by simpa using hV
    refine seqU rfl rfl ?_
    refine seqU rfl rfl ?_
    refine seqU rfl rfl ?_
    refine seqU rfl rfl ?_
    refine seqU rfl rfl ?_
    refine seqQ rfl rfl (yPickT (v := .bool _) rfl rfl rfl) ?_
    refine seqQ rfl rfl (yMove (v := .bool true) rfl rfl) ?_
    refine seqU rfl rfl ?_
    refine seqU rfl rfl ?_
    refine seqQ rfl rfl (yPickT (v := .bool _) rfl rfl rfl) ?_
    refine seqNil ?_
    refine hF3 _ _ ?_; clear hF3
    -- if t30
    refine wpT rfl ?_
    refine wpSeq fun F4 hF4 => ?_
    refine wpRegion ?_
    refine seqQ rfl rfl (yAssign (v := .slice _ _ _) rfl rfl) ?_
    refine seqQ rfl rfl (yAssign (v := .int _ _) rfl rfl) ?_
    refine seqNil ?_
    refine hF4 _ _ ?_; clear hF4
    -- ret
    refine wpRet (fin2 (v := .slice _ _ _) (v' := .int _ _) rfl rfl rfl ?_)
    rw [recvL_bad (fun h => hV h.1)]
    exact ⟨none, 0, [], rfl, LogRd.nil _ _, rfl, hE⟩
  · skip
    have hV : ValidLog (l.map EH.ent) role roles := by simpa using hV
    refine seqQ rfl rfl (yLoadB (hB8.ext x1) rfl Try.underlying26 rfl Try.sizeOf26 rfl) ?_
    refine seqQ rfl rfl (yMove (v := .int _ _) rfl rfl) ?_
    refine seqQ rfl rfl (yMove (v := .int _ _) rfl rfl) ?_
    -- e slot 24: call F39<farandole/farandoleref57.proper> t21 t22 t23
    refine seqE rfl rfl (stepCall rfl Try.call39 rfl ?_)
    refine (proper57_c e VA vc role roles H1).mono ?_
    rintro v H2 ⟨rfl, x2⟩
    replace hE := hE.trans x2
    have h7 := (hB8.ext x1).ext x2
    clear x1 x2 hB8
    refine seqQ rfl rfl (yNot rfl rfl) ?_
    refine seqQ rfl rfl (yPickF (v := .bool _) rfl rfl rfl) ?_
    -- guard t27
    refine seqGB rfl rfl rfl rfl (fun hS => ?_) (fun hS => ?_)
    · skip
      have hS : ¬ standsE e role roles := by simpa using hS
      refine seqU rfl rfl ?_
      refine seqU rfl rfl ?_
      refine seqQ rfl rfl (yPickT (v := .bool _) rfl rfl rfl) ?_
      refine seqNil ?_
      refine hF3 _ _ ?_; clear hF3
      -- if t30
      refine wpT rfl ?_
      refine wpSeq fun F5 hF5 => ?_
      refine wpRegion ?_
      refine seqQ rfl rfl (yAssign (v := .slice _ _ _) rfl rfl) ?_
      refine seqQ rfl rfl (yAssign (v := .int _ _) rfl rfl) ?_
      refine seqNil ?_
      refine hF5 _ _ ?_; clear hF5
      -- ret
      refine wpRet (fin2 (v := .slice _ _ _) (v' := .int _ _) rfl rfl rfl ?_)
      rw [recvL_bad (fun h => hS h.2.1)]
      exact ⟨none, 0, [], rfl, LogRd.nil _ _, rfl, hE⟩
    · skip
      have hS : standsE e role roles := by simpa using hS
      refine seqQ rfl rfl (yFieldAddr rfl Try.underlying26 rfl Try.sizeOf4 rfl rfl) ?_
      refine seqQ rfl rfl (yLoad rfl Try.underlying4 rfl rfl (h7.cell rfl)) ?_
      refine seqQ rfl rfl (yPickF (v := .bool _) rfl rfl rfl) ?_
      refine seqNil ?_
      refine hF3 _ _ ?_; clear hF3
      -- if t30
      refine wpCond rfl (fun hD => ?_) (fun hD => ?_)
      · skip
        refine wpSeq fun F6 hF6 => ?_
        refine wpRegion ?_
        refine seqQ rfl rfl (yAssign (v := .slice _ _ _) rfl rfl) ?_
        refine seqQ rfl rfl (yAssign (v := .int _ _) rfl rfl) ?_
        refine seqNil ?_
        refine hF6 _ _ ?_; clear hF6
        -- ret
        refine wpRet (fin2 (v := .slice _ _ _) (v' := .int _ _) rfl rfl rfl ?_)
        rw [recvL_bad (fun h => by rw [h.2.2] at hD; cases hD)]
        exact ⟨none, 0, [], rfl, LogRd.nil _ _, rfl, hE⟩
      · skip
        have hA := And.intro hV (And.intro hS hD)
        have hll := lastC_len hV
        obtain ⟨hr, hr2, hlm, -⟩ := hV
        rw [hml] at hlm
        refine wpSkip ?_
        refine hF2 _ _ ?_; clear hF2
        refine wpSeq fun F7 hF7 => ?_
        refine wpRegion ?_
        refine seqQ rfl rfl (yMove (v := .slice _ _ _) rfl rfl) ?_
        refine seqQ rfl rfl (yMove (v := .int _ _) rfl rfl) ?_
        -- e slot 34: call F41<farandole/farandoleref57.last> t32 t33
        refine seqE rfl rfl (stepCall rfl Try.call41 rfl ?_)
        refine (rlast_c l A ca roles H2 (h.1.ext hE) hr hlm (fun x hx => ((h.2 x hx).ext hE).2)).mono ?_
        rintro v H3 ⟨L, lc, rfl, rL, x3⟩
        replace hE := hE.trans x3
        replace h7 := h7.ext x3
        clear x3
        refine seqQ rfl rfl (yMove (v := .slice _ _ _) rfl rfl) ?_
        -- e slot 36: call F44<farandole/farandoleref07.Join> t34 t35
        refine seqE rfl rfl (stepCall rfl Try.call44 rfl ?_)
        refine (r7Join_c L MA lc mc _ m H3 rL (hm.ext hE) (by have := lastC_sm hs hr.2; omega) (by omega)).mono ?_
        rintro v H4 ⟨x4, s, rfl, oJ⟩
        replace h7 := h7.ext x4
        replace hE := hE.trans x4
        obtain ⟨S, sc, rfl, -⟩ := oJ.form
        clear x4 rL
        refine seqQ rfl rfl (yMove (v := .tuple _) rfl rfl) ?_
        refine seqQ rfl rfl (yExtract (v := .slice _ _ _) rfl rfl rfl) ?_
        refine seqQ rfl rfl (yExtract (v := .int _ _) rfl rfl rfl) ?_
        refine seqQ rfl rfl (yAssign (v := .slice _ _ _) rfl rfl) ?_
        refine seqQ rfl rfl (yAssign (v := .int _ _) rfl rfl) ?_
        refine seqNil ?_
        refine hF7 _ _ ?_; clear hF7
        refine wpSeq fun F8 hF8 => ?_
        refine wpSeq fun F9 hF9 => ?_
        refine wpRegion ?_
        refine seqQ rfl rfl (yMove (v := .int _ _) rfl rfl) ?_
        refine seqQ rfl rfl (yNeq rfl rfl rfl) ?_
        refine seqNil ?_
        refine hF9 _ _ ?_; clear hF9
        -- if t40
        refine wpCond rfl (fun hJ => ?_) (fun hJ => ?_)
        · skip
          have hJ : ¬ (joinF (lastC (l.map EH.ent) roles) m).1 = 0 := by simpa using hJ
          have e1 := recvF_err (r := role) hJ
          refine wpSeq fun F10 hF10 => ?_
          refine wpRegion ?_
          refine seqQ rfl rfl (yMove (v := .int _ _) rfl rfl) ?_
          refine seqQ rfl rfl (yAssign (v := .slice _ _ _) rfl rfl) ?_
          refine seqQ rfl rfl (yAssign (v := .int _ _) rfl rfl) ?_
          refine seqNil ?_
          refine hF10 _ _ ?_; clear hF10
          -- ret
          refine wpRet (fin2 (v := .slice _ _ _) (v' := .int _ _) rfl rfl rfl ?_)
          rw [recvL_err hA (by rw [e1]; exact hJ), e1]
          exact ⟨none, 0, [], rfl, LogRd.nil _ _, rfl, hE⟩
        · skip
          have hJ : (joinF (lastC (l.map EH.ent) roles) m).1 = 0 := by simpa using hJ
          have e1 := recvF_tick (r := role) hJ
          obtain ⟨j1, j2⟩ := join_okC hJ
          have hlim := tick_lim (r := role) j1 (by omega)
          rw [← e1] at hlim
          refine wpSkip ?_
          refine hF8 _ _ ?_; clear hF8
          refine wpSeq fun F11 hF11 => ?_
          refine wpRegion ?_
          refine seqQ rfl rfl (yMove (v := .slice _ _ _) rfl rfl) ?_
          refine seqQ rfl rfl (yMove (v := .int _ _) rfl rfl) ?_
          -- e slot 45: call F40<farandole/farandoleref07.Tick> t43 t44
          refine seqE rfl rfl (stepCall rfl Try.call40 rfl ?_)
          refine (r7Tick_c S sc _ role H4 (Own.rd oJ).2 (by omega)).mono ?_
          rintro v H5 ⟨x5, s, rfl, oT⟩
          rw [← e1] at oT ⊢
          replace h7 := h7.ext x5
          replace hE := hE.trans x5
          obtain ⟨T, tc, rfl, -⟩ := oT.form
          clear x5 oJ
          refine seqQ rfl rfl (yMove (v := .tuple _) rfl rfl) ?_
          refine seqQ rfl rfl (yExtract (v := .slice _ _ _) rfl rfl rfl) ?_
          refine seqQ rfl rfl (yExtract (v := .int _ _) rfl rfl rfl) ?_
          refine seqQ rfl rfl (yAssign (v := .slice _ _ _) rfl rfl) ?_
          refine seqQ rfl rfl (yAssign (v := .int _ _) rfl rfl) ?_
          refine seqNil ?_
          refine hF11 _ _ ?_; clear hF11
          refine wpSeq fun F12 hF12 => ?_
          refine wpSeq fun F13 hF13 => ?_
          refine wpRegion ?_
          refine seqQ rfl rfl (yMove (v := .int _ _) rfl rfl) ?_
          refine seqQ rfl rfl (yNeq rfl rfl rfl) ?_
          -- guard t50
          refine seqGB rfl rfl rfl rfl (fun hT => ?_) (fun hT => ?_)
          · skip
            have hT : ¬ (receiveF (lastC (l.map EH.ent) roles) m role).1 = 0 := by simpa using hT
            refine seqU rfl rfl ?_
            refine seqU rfl rfl ?_
            refine seqU rfl rfl ?_
            refine seqQ rfl rfl (yPickT (v := .bool _) rfl rfl rfl) ?_
            refine seqNil ?_
            refine hF13 _ _ ?_; clear hF13
            -- if t54
            refine wpT rfl ?_
            refine wpSeq fun F14 hF14 => ?_
            refine wpRegion ?_
            refine seqQ rfl rfl (yAssign (v := .slice _ _ _) rfl rfl) ?_
            refine seqQ rfl rfl (yAssign (v := .int _ _) rfl rfl) ?_
            refine seqNil ?_
            refine hF14 _ _ ?_; clear hF14
            -- ret
            refine wpRet (fin2 (v := .slice _ _ _) (v' := .int _ _) rfl rfl rfl ?_)
            rw [recvL_err hA hT, hlim.resolve_left hT]
            exact ⟨none, 0, [], rfl, LogRd.nil _ _, rfl, hE⟩
          · skip
            have hT : (receiveF (lastC (l.map EH.ent) roles) m role).1 = 0 := by simpa using hT
            refine seqQ rfl rfl (yMove (v := .slice _ _ _) rfl rfl) ?_
            refine seqQ rfl rfl (yLen rfl Try.underlying23 rfl) ?_
            refine seqQ rfl rfl (yEql rfl rfl rfl) ?_
            refine seqQ rfl rfl (yPickF (v := .bool _) rfl rfl rfl) ?_
            refine seqNil ?_
            refine hF13 _ _ ?_; clear hF13
            -- if t54
            refine wpCond rfl (fun hlen => ?_) (fun hlen => ?_)
            · skip
              have hlen : (l.length : Int) = 1000 := by simp at hlen; omega
              refine wpSeq fun F15 hF15 => ?_
              refine wpRegion ?_
              refine seqQ rfl rfl (yAssign (v := .slice _ _ _) rfl rfl) ?_
              refine seqQ rfl rfl (yAssign (v := .int _ _) rfl rfl) ?_
              refine seqNil ?_
              refine hF15 _ _ ?_; clear hF15
              -- ret
              refine wpRet (fin2 (v := .slice _ _ _) (v' := .int _ _) rfl rfl rfl ?_)
              rw [recvL_lim hA hT (by rw [hml]; omega)]
              exact ⟨none, 0, [], rfl, LogRd.nil _ _, rfl, hE⟩
            · skip
              have hlen : ¬ (l.length : Int) = 1000 := by simp at hlen; omega
              refine wpSkip ?_
              refine hF12 _ _ ?_; clear hF12
              refine wpSeq fun F16 hF16 => ?_
              refine wpRegion ?_
              refine seqQ rfl rfl (yMove (v := .slice _ _ _) rfl rfl) ?_
              refine seqQ rfl rfl (yLoadB h7 rfl Try.underlying26 rfl Try.sizeOf26 rfl) ?_
              refine seqQ rfl rfl (yMove (v := .slice _ _ _) rfl rfl) ?_
              -- e slot 58: call F42<farandole/farandoleref57.with> t55 t56 t57
              refine seqE rfl rfl (stepCall rfl Try.call42 rfl ?_)
              refine (with_c l A ca e VA vc _ T tc H5 (h.ext hE) hs (hv.ext hE) hvl (Own.rd oT).2).mono ?_
              rintro v H6 ⟨B, cb, l', rfl, lo, hmp, x6⟩
              refine seqQ rfl rfl (yAssign (v := .slice _ _ _) rfl rfl) ?_
              refine seqQ rfl rfl (yAssign (v := .int _ _) rfl rfl) ?_
              refine seqNil ?_
              refine hF16 _ _ ?_; clear hF16
              -- ret
              refine wpRet (fin2 (v := .slice _ _ _) (v' := .int _ _) rfl rfl rfl ?_)
              rw [recvL_ok hA hT (by rw [hml]; omega)]
              exact ⟨B, cb, l', rfl, lo, hmp, hE.trans x6⟩
end Go.Proofs.Ytbanngdijmglbaa
