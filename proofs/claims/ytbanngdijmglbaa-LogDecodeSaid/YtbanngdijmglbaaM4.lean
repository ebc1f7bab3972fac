/- The document's logs: which are valid. -/
import Derived.Test.YtbanngdijmglbaaM3
namespace Go.Proofs.Ytbanngdijmglbaa
open Go.RowKit

set_option maxRecDepth 100000 in
theorem rlogValid_c (l : List EH) (A : Option Addr) (ca : Nat) (role roles : Int) (H : Heap) (h : LogRd H A l) (hs : LogSm l) :
    CallsH Try.prog 18 [.slice A l.length ca, .int .i64 role, .int .i64 roles] H fun v H' => v = .bool (decide (ValidLog (l.map EH.ent) role roles)) ∧ Ext H H' := by
  have s1 := hs.1
  have hml : (l.map EH.ent).length = l.length := List.length_map _
  refine callsH_of Try.func18 rfl Try.ntmps18 (Nat.le_of_ble_eq_true rfl) ?_
  refine wpSeq fun F1 hF1 => ?_
  refine wpRegion ?_
  refine seqQ rfl rfl (yAssign (v := .bool _) rfl rfl) ?_
  refine seqNil ?_
  refine hF1 _ _ ?_; clear hF1
  refine wpSeq fun F2 hF2 => ?_
  refine wpSeq fun F3 hF3 => ?_
  refine wpRegion ?_
  refine seqQ rfl rfl (yMove (v := .int _ _) rfl rfl) ?_
  refine seqQ rfl rfl (yLss rfl rfl rfl) ?_
  first | refine seqG rfl rfl rfl rfl (fun h11 => ?_) (fun h11 => ?_) | refine seqGB rfl rfl rfl rfl (fun h11 => ?_) (fun h11 => ?_)
  · skip
    refine seqU rfl rfl ?_
    refine seqU rfl rfl ?_
    refine seqQ rfl rfl (yPickT (v := .bool _) rfl rfl rfl) ?_
    refine seqQ rfl rfl (yMove (v := .bool true) rfl rfl) ?_
    refine seqU rfl rfl ?_
    refine seqU rfl rfl ?_
    refine seqQ rfl rfl (yPickT (v := .bool _) rfl rfl rfl) ?_
    refine seqQ rfl rfl (yMove (v := .bool true) rfl rfl) ?_
    refine seqU rfl rfl ?_
    refine seqU rfl rfl ?_
    refine seqU rfl rfl ?_
    refine seqQ rfl rfl (yPickT (v := .bool _) rfl rfl rfl) ?_
    refine seqQ rfl rfl (yMove (v := .bool true) rfl rfl) ?_
    refine seqU rfl rfl ?_
    refine seqU rfl rfl ?_
    refine seqU rfl rfl ?_
    refine seqQ rfl rfl (yPickT (v := .bool _) rfl rfl rfl) ?_
    refine seqNil ?_
    refine hF3 _ _ ?_; clear hF3
    refine wpT rfl ?_
    refine wpSeq fun F4 hF4 => ?_
    refine wpRegion ?_
    refine seqQ rfl rfl (yAssign (v := .bool _) rfl rfl) ?_
    refine seqNil ?_
    refine hF4 _ _ ?_; clear hF4
    refine wpRet (fin1 (v := .bool _) rfl rfl ?_)
    exact ⟨by rw [decide_eq_false (fun hv => by have h1 := hv.1; have h2 := hv.2.1; have h3 := hv.2.2.1; omega)], Ext.refl _⟩
  refine seqQ rfl rfl (yMove (v := .int _ _) rfl rfl) ?_
  refine seqQ rfl rfl (yGtr rfl rfl rfl) ?_
  refine seqQ rfl rfl (yPickF (v := .bool _) rfl rfl rfl) ?_
  first | refine seqG rfl rfl rfl rfl (fun h15 => ?_) (fun h15 => ?_) | refine seqGB rfl rfl rfl rfl (fun h15 => ?_) (fun h15 => ?_)
  · skip
    refine seqU rfl rfl ?_
    refine seqU rfl rfl ?_
    refine seqQ rfl rfl (yPickT (v := .bool _) rfl rfl rfl) ?_
    refine seqQ rfl rfl (yMove (v := .bool true) rfl rfl) ?_
    refine seqU rfl rfl ?_
    refine seqU rfl rfl ?_
    refine seqU rfl rfl ?_
    refine seqQ rfl rfl (yPickT (v := .bool _) rfl rfl rfl) ?_
    refine seqQ rfl rfl (yMove (v := .bool true) rfl rfl) ?_
    refine seqU rfl rfl ?_
    refine seqU rfl rfl ?_
    refine seqU rfl rfl ?_
    refine seqQ rfl rfl (yPickT (v := .bool _) rfl rfl rfl) ?_
    refine seqNil ?_
    refine hF3 _ _ ?_; clear hF3
    refine wpT rfl ?_
    refine wpSeq fun F5 hF5 => ?_
    refine wpRegion ?_
    refine seqQ rfl rfl (yAssign (v := .bool _) rfl rfl) ?_
    refine seqNil ?_
    refine hF5 _ _ ?_; clear hF5
    refine wpRet (fin1 (v := .bool _) rfl rfl ?_)
    exact ⟨by rw [decide_eq_false (fun hv => by have h1 := hv.1; have h2 := hv.2.1; have h3 := hv.2.2.1; omega)], Ext.refl _⟩
  refine seqQ rfl rfl (yMove (v := .int _ _) rfl rfl) ?_
  refine seqQ rfl rfl (yLss rfl rfl rfl) ?_
  refine seqQ rfl rfl (yPickF (v := .bool _) rfl rfl rfl) ?_
  first | refine seqG rfl rfl rfl rfl (fun h19 => ?_) (fun h19 => ?_) | refine seqGB rfl rfl rfl rfl (fun h19 => ?_) (fun h19 => ?_)
  · skip
    refine seqU rfl rfl ?_
    refine seqU rfl rfl ?_
    refine seqU rfl rfl ?_
    refine seqQ rfl rfl (yPickT (v := .bool _) rfl rfl rfl) ?_
    refine seqQ rfl rfl (yMove (v := .bool true) rfl rfl) ?_
    refine seqU rfl rfl ?_
    refine seqU rfl rfl ?_
    refine seqU rfl rfl ?_
    refine seqQ rfl rfl (yPickT (v := .bool _) rfl rfl rfl) ?_
    refine seqNil ?_
    refine hF3 _ _ ?_; clear hF3
    refine wpT rfl ?_
    refine wpSeq fun F6 hF6 => ?_
    refine wpRegion ?_
    refine seqQ rfl rfl (yAssign (v := .bool _) rfl rfl) ?_
    refine seqNil ?_
    refine hF6 _ _ ?_; clear hF6
    refine wpRet (fin1 (v := .bool _) rfl rfl ?_)
    exact ⟨by rw [decide_eq_false (fun hv => by have h1 := hv.1; have h2 := hv.2.1; have h3 := hv.2.2.1; omega)], Ext.refl _⟩
  refine seqQ rfl rfl (yMove (v := .int _ _) rfl rfl) ?_
  refine seqQ rfl rfl (yMove (v := .int _ _) rfl rfl) ?_
  refine seqQ rfl rfl (yGeq rfl rfl rfl) ?_
  refine seqQ rfl rfl (yPickF (v := .bool _) rfl rfl rfl) ?_
  first | refine seqG rfl rfl rfl rfl (fun h24 => ?_) (fun h24 => ?_) | refine seqGB rfl rfl rfl rfl (fun h24 => ?_) (fun h24 => ?_)
  · skip
    refine seqU rfl rfl ?_
    refine seqU rfl rfl ?_
    refine seqU rfl rfl ?_
    refine seqQ rfl rfl (yPickT (v := .bool _) rfl rfl rfl) ?_
    refine seqNil ?_
    refine hF3 _ _ ?_; clear hF3
    refine wpT rfl ?_
    refine wpSeq fun F7 hF7 => ?_
    refine wpRegion ?_
    refine seqQ rfl rfl (yAssign (v := .bool _) rfl rfl) ?_
    refine seqNil ?_
    refine hF7 _ _ ?_; clear hF7
    refine wpRet (fin1 (v := .bool _) rfl rfl ?_)
    exact ⟨by rw [decide_eq_false (fun hv => by have h1 := hv.1; have h2 := hv.2.1; have h3 := hv.2.2.1; omega)], Ext.refl _⟩
  refine seqQ rfl rfl (yMove (v := .slice _ _ _) rfl rfl) ?_
  refine seqQ rfl rfl (yLen rfl Try.underlying23 rfl) ?_
  refine seqQ rfl rfl (yGtr rfl rfl rfl) ?_
  refine seqQ rfl rfl (yPickF (v := .bool _) rfl rfl rfl) ?_
  refine seqNil ?_
  refine hF3 _ _ ?_; clear hF3
  -- if t28
  refine wpIf rfl (fun hlen => ?_) (fun hlen => ?_)
  · skip
    refine wpSeq fun F8 hF8 => ?_
    refine wpRegion ?_
    refine seqQ rfl rfl (yAssign (v := .bool _) rfl rfl) ?_
    refine seqNil ?_
    refine hF8 _ _ ?_; clear hF8
    -- ret
    refine wpRet (fin1 (v := .bool _) rfl rfl ?_)
    exact ⟨by rw [decide_eq_false (fun hv => by have h3 := hv.2.2.1; omega)], Ext.refl _⟩
  · skip
    obtain ⟨r, rfl⟩ := Int.eq_ofNat_of_zero_le (show 0 ≤ role by omega)
    have hgood : (1 ≤ roles ∧ roles ≤ 6) ∧ (0 ≤ (r : Int) ∧ (r : Int) < roles) ∧ (l.map EH.ent).length ≤ 1000 := by omega
    refine wpSkip ?_
    refine hF2 _ _ ?_; clear hF2
    refine wpSeq fun F9 hF9 => ?_
    refine wpSeq fun F10 hF10 => ?_
    refine wpRegion ?_
    refine seqQ rfl rfl (yAssign (v := .int _ _) rfl rfl) ?_
    refine seqNil ?_
    refine hF10 _ _ ?_; clear hF10
    -- loop
    refine wpBlock ?_
    refine wpLoopS [6, 7, 8, 29, 30, 31, 32, 33, 34, 35, 36, 37, 38, 39, 40, 41, 42, 43, 44, 45, 46, 47, 48, 49, 50, 51, 52, 53, 54, 55, 56, 57, 58, 59, 60, 61, 62, 63, 64, 65, 66, 67, 68, 69, 70, 71, 72, 73, 74, 75, 76, 77, 78, 79, 80, 81] (fun k : Nat => [(7, .int .i64 k)]) (fun k H' => k ≤ l.length ∧ Ext H H' ∧ ∀ j, j < k → EntOk (l.map EH.ent) r roles j) (fun k => l.length - k) 0 ⟨rfl, trivial⟩ ⟨Nat.zero_le _, Ext.refl _, fun j h => absurd h (by simp)⟩ ?_
    rintro k J Hk ⟨hk, hE, hok⟩
    refine wpSeq fun F11 hF11 => ?_
    refine wpSeq fun F12 hF12 => ?_
    refine wpRegion ?_
    refine seqQ rfl rfl (yMove (v := .int _ _) rfl rfl) ?_
    refine seqQ rfl rfl (yMove (v := .slice _ _ _) rfl rfl) ?_
    refine seqQ rfl rfl (yLen rfl Try.underlying23 rfl) ?_
    refine seqQ rfl rfl (yLss rfl rfl rfl) ?_
    refine seqNil ?_
    refine hF12 _ _ ?_; clear hF12
    -- if t32
    refine wpIf rfl (fun hlt => ?_) (fun hlt => ?_)
    · skip
      have hkl : k < l.length := by omega
      have hgk := getD_ent l hkl
      have hlr := h.1.ext hE
      obtain ⟨p, rfl, hp⟩ := hlr.at hkl
      obtain ⟨-, hci⟩ := h.2 _ (List.getElem_mem hkl)
      obtain ⟨-, hcs⟩ := hs.2 _ (List.getElem_mem hkl)
      generalize hx : l[k] = x at *
      refine wpSkip ?_
      refine hF11 _ _ ?_; clear hF11
      refine wpSeq fun F13 hF13 => ?_
      refine wpBlock ?_
      refine wpSeq fun F14 hF14 => ?_
      refine wpRegion ?_
      refine seqQ rfl rfl (yMove (v := .slice _ _ _) rfl rfl) ?_
      refine seqQ rfl rfl (yMove (v := .int _ _) rfl rfl) ?_
      refine seqQ rfl rfl (yIdx rfl Try.underlying23 Try.sizeOf86 rfl rfl rfl hkl) ?_
      refine seqQ rfl rfl (yFieldAddr rfl Try.underlying86 rfl Try.sizeOf28 rfl rfl) ?_
      refine seqQ rfl rfl (yLoad rfl Try.underlying28 rfl rfl (hp 5 _ rfl)) ?_
      refine seqQ rfl rfl (yAssign (v := .slice _ _ _) rfl rfl) ?_
      refine seqNil ?_
      refine hF14 _ _ ?_; clear hF14
      refine wpSeq fun F15 hF15 => ?_
      refine wpSeq fun F16 hF16 => ?_
      refine wpRegion ?_
      refine seqQ rfl rfl (yMove (v := .slice _ _ _) rfl rfl) ?_
      refine seqQ rfl rfl (yMove (v := .int _ _) rfl rfl) ?_
      refine seqQ rfl rfl (yIdx rfl Try.underlying23 Try.sizeOf86 rfl rfl rfl hkl) ?_
      refine seqQ rfl rfl (yFieldAddr rfl Try.underlying86 rfl Try.sizeOf26 rfl rfl) ?_
      refine seqQ rfl rfl (yLoadC (cs := evC x.ev x.VA x.vc) rfl Try.underlying26 rfl Try.sizeOf26 rfl (fun j u hu => hp j u (ev_sub hu))) ?_
      refine seqQ rfl rfl (yMove (v := .int _ _) rfl rfl) ?_
      refine seqQ rfl rfl (yMove (v := .int _ _) rfl rfl) ?_
      -- e slot 47: call F39<farandole/farandoleref57.proper> t44 t45 t46
      refine seqE rfl rfl (stepCall rfl Try.call39 rfl ?_)
      refine (proper57_c x.ev x.VA x.vc r roles Hk).mono ?_
      rintro v H3 ⟨rfl, x3⟩
      have hE2 := hE.trans x3
      have hbad : ¬ EntOk (l.map EH.ent) r roles k → ¬ ValidLog (l.map EH.ent) r roles := fun hb hv => hb (hv.2.2.2 k (by rw [hml]; exact hkl))
      have hbad' : (standsE x.ev r roles → okC x.clk = true → (x.clk.length : Int) = roles → x.clk.getD r 0 = k + 1 → ¬ (0 < k → leB ((l.map EH.ent).getD (k - 1) ent0).clk x.clk = true)) → ¬ ValidLog (l.map EH.ent) r roles := fun hb => hbad fun he => by
        unfold EntOk at he
        rw [hgk] at he
        exact hb he.1 he.2.1 he.2.2.1 he.2.2.2.1 he.2.2.2.2
      refine seqQ rfl rfl (yNot rfl rfl) ?_
      -- guard t49
      refine seqGB rfl rfl rfl rfl (fun h1 => ?_) (fun h1 => ?_)
      · skip
        refine seqU rfl rfl ?_
        refine seqU rfl rfl ?_
        refine seqU rfl rfl ?_
        refine seqQ rfl rfl (yPickT (v := .bool _) rfl rfl rfl) ?_
        refine seqQ rfl rfl (yMove (v := .bool true) rfl rfl) ?_
        refine seqU rfl rfl ?_
        refine seqU rfl rfl ?_
        refine seqU rfl rfl ?_
        refine seqU rfl rfl ?_
        refine seqQ rfl rfl (yPickT (v := .bool _) rfl rfl rfl) ?_
        refine seqQ rfl rfl (yMove (v := .bool true) rfl rfl) ?_
        refine seqU rfl rfl ?_
        refine seqU rfl rfl ?_
        refine seqU rfl rfl ?_
        refine seqU rfl rfl ?_
        refine seqU rfl rfl ?_
        refine seqU rfl rfl ?_
        refine seqU rfl rfl ?_
        refine seqQ rfl rfl (yPickT (v := .bool _) rfl rfl rfl) ?_
        refine seqNil ?_
        refine hF16 _ _ ?_; clear hF16
        -- if t68
        refine wpT rfl ?_
        refine wpSeq fun F17 hF17 => ?_
        refine wpRegion ?_
        refine seqQ rfl rfl (yAssign (v := .bool _) rfl rfl) ?_
        refine seqNil ?_
        refine hF17 _ _ ?_; clear hF17
        -- ret
        refine wpRet (fin1 (v := .bool _) rfl rfl ?_)
        exact ⟨by rw [decide_eq_false (hbad' fun e => by simp [e] at h1)], hE2⟩
      · skip
        have h1 : standsE x.ev r roles := by simpa using h1
        refine seqQ rfl rfl (yMove (v := .slice _ _ _) rfl rfl) ?_
        -- e slot 51: call F46<farandole/farandoleref07.Valid> t50
        refine seqE rfl rfl (stepCall rfl Try.call46 rfl ?_)
        refine (r7Valid_c x.CA x.cc x.clk H3 (hci.ext hE2) (by omega)).mono ?_
        rintro v Hz ⟨rfl, e⟩
        obtain rfl := e.symm
        clear e
        refine seqQ rfl rfl (yNot rfl rfl) ?_
        refine seqQ rfl rfl (yPickF (v := .bool _) rfl rfl rfl) ?_
        -- guard t54
        refine seqGB rfl rfl rfl rfl (fun h2 => ?_) (fun h2 => ?_)
        · skip
          refine seqU rfl rfl ?_
          refine seqU rfl rfl ?_
          refine seqU rfl rfl ?_
          refine seqU rfl rfl ?_
          refine seqQ rfl rfl (yPickT (v := .bool _) rfl rfl rfl) ?_
          refine seqQ rfl rfl (yMove (v := .bool true) rfl rfl) ?_
          refine seqU rfl rfl ?_
          refine seqU rfl rfl ?_
          refine seqU rfl rfl ?_
          refine seqU rfl rfl ?_
          refine seqU rfl rfl ?_
          refine seqU rfl rfl ?_
          refine seqU rfl rfl ?_
          refine seqQ rfl rfl (yPickT (v := .bool _) rfl rfl rfl) ?_
          refine seqNil ?_
          refine hF16 _ _ ?_; clear hF16
          -- if t68
          refine wpT rfl ?_
          refine wpSeq fun F18 hF18 => ?_
          refine wpRegion ?_
          refine seqQ rfl rfl (yAssign (v := .bool _) rfl rfl) ?_
          refine seqNil ?_
          refine hF18 _ _ ?_; clear hF18
          -- ret
          refine wpRet (fin1 (v := .bool _) rfl rfl ?_)
          exact ⟨by rw [decide_eq_false (hbad' fun _ e => by simp [e] at h2)], hE2⟩
        · skip
          have h2 : okC x.clk = true := by simpa using h2
          refine seqQ rfl rfl (yMove (v := .slice _ _ _) rfl rfl) ?_
          refine seqQ rfl rfl (yLen rfl Try.underlying28 rfl) ?_
          refine seqQ rfl rfl (yMove (v := .int _ _) rfl rfl) ?_
          refine seqQ rfl rfl (yNeq rfl rfl rfl) ?_
          refine seqQ rfl rfl (yPickF (v := .bool _) rfl rfl rfl) ?_
          -- guard t60
          refine seqGB rfl rfl rfl rfl (fun h3 => ?_) (fun h3 => ?_)
          · skip
            have h3 : ¬ (x.clk.length : Int) = roles := by simpa using h3
            refine seqU rfl rfl ?_
            refine seqU rfl rfl ?_
            refine seqU rfl rfl ?_
            refine seqU rfl rfl ?_
            refine seqU rfl rfl ?_
            refine seqU rfl rfl ?_
            refine seqU rfl rfl ?_
            refine seqQ rfl rfl (yPickT (v := .bool _) rfl rfl rfl) ?_
            refine seqNil ?_
            refine hF16 _ _ ?_; clear hF16
            -- if t68
            refine wpT rfl ?_
            refine wpSeq fun F19 hF19 => ?_
            refine wpRegion ?_
            refine seqQ rfl rfl (yAssign (v := .bool _) rfl rfl) ?_
            refine seqNil ?_
            refine hF19 _ _ ?_; clear hF19
            -- ret
            refine wpRet (fin1 (v := .bool _) rfl rfl ?_)
            exact ⟨by rw [decide_eq_false (hbad' fun _ _ e => absurd e h3)], hE2⟩
          · skip
            have h3 : (x.clk.length : Int) = roles := by simpa using h3
            have hr : r < x.clk.length := by omega
            have hrd := hci.ext hE2
            obtain ⟨pc, epc, hpc⟩ := hrd.at1 hr
            have hgr : x.clk.getD r 0 = x.clk[r] := by rw [List.getD_eq_getElem?_getD, List.getElem?_eq_getElem hr]; rfl
            refine seqQ rfl rfl (yMove (v := .slice _ _ _) rfl rfl) ?_
            refine seqQ rfl rfl (yMove (v := .int _ _) rfl rfl) ?_
            refine seqQ rfl rfl (yIdxP1 rfl Try.underlying28 Try.sizeOf3 rfl rfl epc rfl hr) ?_
            refine seqQ rfl rfl (yLoad rfl Try.underlying3 rfl rfl hpc) ?_
            refine seqQ rfl rfl (yMove (v := .int _ _) rfl rfl) ?_
            refine seqQ rfl rfl (yAdd rfl rfl rfl (by unfold In64; omega)) ?_
            refine seqQ rfl rfl (yNeq rfl rfl rfl) ?_
            refine seqQ rfl rfl (yPickF (v := .bool _) rfl rfl rfl) ?_
            refine seqNil ?_
            refine hF16 _ _ ?_; clear hF16
            -- if t68
            refine wpCond rfl (fun h4 => ?_) (fun h4 => ?_)
            · skip
              refine wpSeq fun F20 hF20 => ?_
              refine wpRegion ?_
              refine seqQ rfl rfl (yAssign (v := .bool _) rfl rfl) ?_
              refine seqNil ?_
              refine hF20 _ _ ?_; clear hF20
              -- ret
              refine wpRet (fin1 (v := .bool _) rfl rfl ?_)
              exact ⟨by rw [decide_eq_false (hbad' fun _ _ _ e => by rw [hgr] at e; simp [e] at h4)], hE2⟩
            · skip
              have h4 : x.clk[r] = k + 1 := by simpa using h4
              have hnext : (0 < k → leB ((l.map EH.ent).getD (k - 1) ent0).clk x.clk = true) → ∀ j, j < k + 1 → EntOk (l.map EH.ent) r roles j := fun hb j hj => by
                by_cases e : j = k
                · subst e
                  unfold EntOk
                  rw [hgk]
                  exact ⟨h1, h2, h3, by show x.clk.getD r 0 = _; rw [hgr]; exact h4, hb⟩
                · exact hok j (by omega)
              refine wpSkip ?_
              refine hF15 _ _ ?_; clear hF15
              refine wpSeq fun F21 hF21 => ?_
              refine wpRegion ?_
              refine seqQ rfl rfl (yMove (v := .int _ _) rfl rfl) ?_
              refine seqQ rfl rfl (yGtr rfl rfl rfl) ?_
              -- guard t71
              refine seqG rfl rfl rfl rfl (fun h0 => ?_) (fun h0 => ?_)
              · skip
                have hk1 : k - 1 < l.length := by omega
                have hgk1 := getD_ent l hk1
                obtain ⟨q, eq, hq⟩ := hlr.at hk1
                obtain rfl := Option.some.inj eq
                obtain ⟨-, hci1⟩ := h.2 _ (List.getElem_mem hk1)
                obtain ⟨-, hcs1⟩ := hs.2 _ (List.getElem_mem hk1)
                generalize hy : l[k - 1] = y at *
                refine seqQ rfl rfl (yMove (v := .slice _ _ _) rfl rfl) ?_
                refine seqQ rfl rfl (yMove (v := .int _ _) rfl rfl) ?_
                refine seqQ rfl rfl (ySubE rfl rfl rfl (by unfold In64; omega) (show (k : Int) - 1 = ((k - 1 : Nat) : Int) by omega)) ?_
                refine seqQ rfl rfl (yIdx rfl Try.underlying23 Try.sizeOf86 rfl rfl rfl hk1) ?_
                refine seqQ rfl rfl (yFieldAddr rfl Try.underlying86 rfl Try.sizeOf28 rfl rfl) ?_
                refine seqQ rfl rfl (yLoad rfl Try.underlying28 rfl rfl (x3.cell (hq 5 _ rfl))) ?_
                refine seqQ rfl rfl (yMove (v := .slice _ _ _) rfl rfl) ?_
                -- e slot 79: call F47<farandole/farandoleref07.AtMost> t77 t78
                refine seqE rfl rfl (stepCall rfl Try.call47 rfl ?_)
                refine (r7AtMost_c y.CA x.CA y.cc x.cc y.clk x.clk H3 (hci1.ext hE2) hrd (by omega)).mono ?_
                rintro v Hz ⟨rfl, e⟩
                obtain rfl := e.symm
                clear e
                have p3 := (hok (k - 1) (by omega)).2.2.1
                rw [hgk1] at p3
                replace p3 : (y.clk.length : Int) = roles := p3
                rw [decide_eq_true (show y.clk.length = x.clk.length by omega), Bool.true_and]
                have ey : ((l.map EH.ent).getD (k - 1) ent0).clk = y.clk := by rw [hgk1]; rfl
                refine seqQ rfl rfl (yNot rfl rfl) ?_
                refine seqQ rfl rfl (yPickT (v := .bool _) rfl rfl rfl) ?_
                refine seqNil ?_
                refine hF21 _ _ ?_; clear hF21
                -- if t81
                refine wpCond rfl (fun h5 => ?_) (fun h5 => ?_)
                · skip
                  have h5 : leB y.clk x.clk = false := by simpa using h5
                  refine wpSeq fun F22 hF22 => ?_
                  refine wpRegion ?_
                  refine seqQ rfl rfl (yAssign (v := .bool _) rfl rfl) ?_
                  refine seqNil ?_
                  refine hF22 _ _ ?_; clear hF22
                  -- ret
                  refine wpRet (fin1 (v := .bool _) rfl rfl ?_)
                  exact ⟨by rw [decide_eq_false (hbad' fun _ _ _ _ e => by have := e (by omega); rw [ey, h5] at this; cases this)], hE2⟩
                · skip
                  have h5 : leB y.clk x.clk = true := by simpa using h5
                  refine wpSkip ?_
                  refine hF13 _ _ ?_; clear hF13
                  refine wpRegion ?_
                  refine seqQ rfl rfl (yMove (v := .int _ _) rfl rfl) ?_
                  refine seqQ rfl rfl (yAdd rfl rfl rfl (by unfold In64; omega)) ?_
                  refine seqQ rfl rfl (yAssign (v := .int _ _) rfl rfl) ?_
                  refine seqNil ?_
                  -- end loop
                  exact loopEnd (k + 1) (by repeat (first | (with_reducible exact Agree.refl _ _) | refine Agree.upd ?_ rfl | refine Agree.over ?_ rfl)) (by omega) ⟨rfl, trivial⟩ ⟨hkl, hE2, hnext (fun _ => by rw [ey]; exact h5)⟩
              · skip
                refine seqU rfl rfl ?_
                refine seqU rfl rfl ?_
                refine seqU rfl rfl ?_
                refine seqU rfl rfl ?_
                refine seqU rfl rfl ?_
                refine seqU rfl rfl ?_
                refine seqU rfl rfl ?_
                refine seqU rfl rfl ?_
                refine seqU rfl rfl ?_
                refine seqQ rfl rfl (yPickF (v := .bool _) rfl rfl rfl) ?_
                refine seqNil ?_
                refine hF21 _ _ ?_; clear hF21
                -- if t81
                refine wpF rfl ?_
                refine wpSkip ?_
                refine hF13 _ _ ?_; clear hF13
                refine wpRegion ?_
                refine seqQ rfl rfl (yMove (v := .int _ _) rfl rfl) ?_
                refine seqQ rfl rfl (yAdd rfl rfl rfl (by unfold In64; omega)) ?_
                refine seqQ rfl rfl (yAssign (v := .int _ _) rfl rfl) ?_
                refine seqNil ?_
                -- end loop
                exact loopEnd (k + 1) (by repeat (first | (with_reducible exact Agree.refl _ _) | refine Agree.upd ?_ rfl | refine Agree.over ?_ rfl)) (by omega) ⟨rfl, trivial⟩ ⟨hkl, hE2, hnext (fun h => by omega)⟩
    · skip
      have hk : k = l.length := by omega
      subst hk
      refine wpExit ?_
      refine hF9 _ _ ?_; clear hF9
      refine wpSeq fun F23 hF23 => ?_
      refine wpRegion ?_
      refine seqQ rfl rfl (yAssign (v := .bool _) rfl rfl) ?_
      refine seqNil ?_
      refine hF23 _ _ ?_; clear hF23
      -- ret
      refine wpRet (fin1 (v := .bool _) rfl rfl ?_)
      exact ⟨by rw [decide_eq_true ⟨hgood.1, hgood.2.1, hgood.2.2, fun j hj => hok j (by omega)⟩], hE⟩
end Go.Proofs.Ytbanngdijmglbaa
