/- Logs: all valid; merged. -/
import Derived.Test.YtbanngdijmglbaaM10
namespace Go.Proofs.Ytbanngdijmglbaa
open Go.RowKit

def ValidLogs (ls : List (List Ent)) : Prop := (1 ≤ ls.length ∧ ls.length ≤ 6) ∧ ∀ r, r < ls.length → ValidLog (ls.getD r []) r ls.length
instance (ls : List (List Ent)) : Decidable (ValidLogs ls) := by unfold ValidLogs; infer_instance
def entsL (ls : List LH) : List (List Ent) := ls.map LH.ents
set_option maxRecDepth 100000 in
theorem entsL_len (ls : List LH) : (entsL ls).length = ls.length := List.length_map _
set_option maxRecDepth 100000 in
theorem entsL_get {ls : List LH} {r : Nat} (hr : r < ls.length) : (entsL ls).getD r [] = ls[r].l.map EH.ent := by
  unfold entsL
  rw [List.getD_eq_getElem?_getD, List.getElem?_map, List.getElem?_eq_getElem hr]
  rfl
/-- Few enough. -/
def LogsSm (ls : List LH) : Prop := ls.length ≤ 100000 ∧ ∀ L ∈ ls, LogSm L.l
set_option maxRecDepth 100000 in
theorem validLogs_c (ls : List LH) (B : Option Addr) (cb : Nat) (H : Heap) (h : LogsRd H B ls) (hs : LogsSm ls) :
    CallsH Try.prog 51 [.slice B ls.length cb] H fun v H' => v = .bool (decide (ValidLogs (entsL ls))) ∧ Ext H H' := by
  have s1 := hs.1
  have he := entsL_len ls
  refine callsH_of Try.func51 rfl Try.ntmps51 (Nat.le_of_ble_eq_true rfl) ?_
  refine wpSeq fun F1 hF1 => ?_
  refine wpRegion ?_
  refine seqQ rfl rfl (yAssign (v := .bool _) rfl rfl) ?_
  refine seqNil ?_
  refine hF1 _ _ ?_; clear hF1
  refine wpSeq fun F2 hF2 => ?_
  refine wpSeq fun F3 hF3 => ?_
  refine wpRegion ?_
  refine seqQ rfl rfl (yMove (v := .slice _ _ _) rfl rfl) ?_
  refine seqQ rfl rfl (yLen rfl Try.underlying36 rfl) ?_
  refine seqQ rfl rfl (yMove (v := .int _ _) rfl rfl) ?_
  refine seqNil ?_
  refine hF3 _ _ ?_; clear hF3
  -- loop
  refine wpBlock ?_
  refine wpLoopS [2, 3, 4, 7, 8, 9, 10, 11, 12, 13, 14, 15, 16, 17, 18] (fun k : Nat => [(7, .int .i64 k)]) (fun k H' => k ≤ ls.length ∧ Ext H H' ∧ ∀ j, j < k → ValidLog ((entsL ls).getD j []) j ls.length) (fun k => ls.length - k) 0 ⟨rfl, trivial⟩ ⟨Nat.zero_le _, Ext.refl _, fun j h => absurd h (by simp)⟩ ?_
  rintro k J Hk ⟨hk, hE, hok⟩
  refine wpSeq fun F4 hF4 => ?_
  refine wpRegion ?_
  refine seqQ rfl rfl (yLss rfl rfl rfl) ?_
  refine seqNil ?_
  refine hF4 _ _ ?_; clear hF4
  refine wpSeq fun F5 hF5 => ?_
  -- if t8
  refine wpIf rfl (fun hlt => ?_) (fun hlt => ?_)
  · skip
    have hkl : k < ls.length := by omega
    obtain ⟨p, ep, hp⟩ := (h.1.ext hE).at1 hkl
    have hL := h.2 _ (List.getElem_mem hkl)
    have hsL := hs.2 _ (List.getElem_mem hkl)
    have hg := entsL_get hkl
    generalize ls[k] = L at *
    refine wpSkip ?_
    refine hF5 _ _ ?_; clear hF5
    refine wpSeq fun F6 hF6 => ?_
    refine wpBlock ?_
    refine wpSeq fun F7 hF7 => ?_
    refine wpRegion ?_
    refine seqQ rfl rfl (yMove (v := .int _ _) rfl rfl) ?_
    refine seqQ rfl rfl (yIdxP1 rfl Try.underlying36 Try.sizeOf35 rfl rfl ep rfl hkl) ?_
    refine seqQ rfl rfl (yLoad rfl Try.underlying35 rfl rfl (show cellH Hk _ = some (.slice L.A L.l.length L.c) from hp)) ?_
    refine seqQ rfl rfl (yAssign (v := .int _ _) rfl rfl) ?_
    refine seqQ rfl rfl (yAssign (v := .slice _ _ _) rfl rfl) ?_
    refine seqNil ?_
    refine hF7 _ _ ?_; clear hF7
    refine wpSeq fun F8 hF8 => ?_
    refine wpRegion ?_
    refine seqQ rfl rfl (yMove (v := .slice _ _ _) rfl rfl) ?_
    refine seqQ rfl rfl (yMove (v := .int _ _) rfl rfl) ?_
    refine seqQ rfl rfl (yMove (v := .slice _ _ _) rfl rfl) ?_
    refine seqQ rfl rfl (yLen rfl Try.underlying36 rfl) ?_
    -- e slot 16: call F17<farandole/log.Valid> t12 t13 t15
    refine seqE rfl rfl (stepCall rfl Try.call17 rfl ?_)
    refine (logValid_c L.l L.A L.c k ls.length Hk (hL.ext hE) hsL).mono ?_
    rintro v H2 ⟨rfl, x2⟩
    rw [← hg]
    refine seqQ rfl rfl (yNot rfl rfl) ?_
    refine seqNil ?_
    refine hF8 _ _ ?_; clear hF8
    -- if t17
    refine wpCond rfl (fun hv => ?_) (fun hv => ?_)
    · skip
      have hv : ¬ ValidLog ((entsL ls).getD k []) k ls.length := by simpa using hv
      refine wpSeq fun F9 hF9 => ?_
      refine wpRegion ?_
      refine seqQ rfl rfl (yAssign (v := .bool _) rfl rfl) ?_
      refine seqNil ?_
      refine hF9 _ _ ?_; clear hF9
      -- ret
      refine wpRet (fin1 (v := .bool _) rfl rfl ?_)
      exact ⟨by rw [decide_eq_false (fun h => hv (by have := h.2 k (by omega); rwa [he] at this))], hE.trans x2⟩
    · skip
      have hv : ValidLog ((entsL ls).getD k []) k ls.length := by simpa using hv
      refine wpSkip ?_
      refine hF6 _ _ ?_; clear hF6
      refine wpRegion ?_
      refine seqQ rfl rfl (yAdd rfl rfl rfl (by unfold In64; omega)) ?_
      refine seqQ rfl rfl (yMove (v := .int _ _) rfl rfl) ?_
      refine seqNil ?_
      -- end loop
      exact loopEnd (k + 1) (by repeat (first | (with_reducible exact Agree.refl _ _) | refine Agree.upd ?_ rfl | refine Agree.over ?_ rfl)) (by omega) ⟨rfl, trivial⟩ ⟨hkl, hE.trans x2, fun j hj => (by
        by_cases e : j = k
        · subst e; exact hv
        · exact hok j (by omega))⟩
  · skip
    obtain rfl : k = ls.length := by omega
    refine wpExit ?_
    refine hF2 _ _ ?_; clear hF2
    refine wpSeq fun F10 hF10 => ?_
    refine wpRegion ?_
    refine seqQ rfl rfl (yMove (v := .slice _ _ _) rfl rfl) ?_
    refine seqQ rfl rfl (yLen rfl Try.underlying36 rfl) ?_
    refine seqQ rfl rfl (yGeq rfl rfl rfl) ?_
    -- guard t22
    first | refine seqG rfl rfl rfl rfl (fun h22 => ?_) (fun h22 => ?_) | refine seqGB rfl rfl rfl rfl (fun h22 => ?_) (fun h22 => ?_)
    rotate_left
    · skip
      refine seqU rfl rfl ?_
      refine seqU rfl rfl ?_
      refine seqU rfl rfl ?_
      refine seqQ rfl rfl (yPickF (v := .bool _) rfl rfl rfl) ?_
      refine seqQ rfl rfl (yAssign (v := .bool _) rfl rfl) ?_
      refine seqNil ?_
      refine hF10 _ _ ?_; clear hF10
      refine wpRet (fin1 (v := .bool _) rfl rfl ?_)
      exact ⟨by rw [decide_eq_false (fun h => by have := h.1; omega)], hE⟩
    refine seqQ rfl rfl (yMove (v := .slice _ _ _) rfl rfl) ?_
    refine seqQ rfl rfl (yLen rfl Try.underlying36 rfl) ?_
    refine seqQ rfl rfl (yLeq rfl rfl rfl) ?_
    refine seqQ rfl rfl (yPickT (v := .bool _) rfl rfl rfl) ?_
    refine seqQ rfl rfl (yAssign (v := .bool _) rfl rfl) ?_
    refine seqNil ?_
    refine hF10 _ _ ?_; clear hF10
    -- ret
    refine wpRet (fin1 (v := .bool _) rfl rfl ?_)
    exact ⟨by congr 1; rw [decide_eq_decide]; exact ⟨fun h => ⟨by omega, fun r hr => by rw [he]; exact hok r (by omega)⟩, fun h => by have := h.1; omega⟩, hE⟩
set_option maxRecDepth 100000 in
theorem rvalidLogs_c (ls : List LH) (B : Option Addr) (cb : Nat) (H : Heap) (h : LogsRd H B ls) (hs : LogsSm ls) :
    CallsH Try.prog 52 [.slice B ls.length cb] H fun v H' => v = .bool (decide (ValidLogs (entsL ls))) ∧ Ext H H' := by
  have s1 := hs.1
  have he := entsL_len ls
  refine callsH_of Try.func52 rfl Try.ntmps52 (Nat.le_of_ble_eq_true rfl) ?_
  refine wpSeq fun F1 hF1 => ?_
  refine wpRegion ?_
  refine seqQ rfl rfl (yAssign (v := .bool _) rfl rfl) ?_
  refine seqNil ?_
  refine hF1 _ _ ?_; clear hF1
  refine wpSeq fun F2 hF2 => ?_
  refine wpSeq fun F3 hF3 => ?_
  refine wpRegion ?_
  refine seqQ rfl rfl (yAssign (v := .int _ _) rfl rfl) ?_
  refine seqNil ?_
  refine hF3 _ _ ?_; clear hF3
  -- loop
  refine wpBlock ?_
  refine wpLoopS [2, 3, 4, 5, 6, 7, 8, 9, 10, 11, 12, 13, 14, 15, 16, 17, 18] (fun k : Nat => [(3, .int .i64 k)]) (fun k H' => k ≤ ls.length ∧ Ext H H' ∧ ∀ j, j < k → ValidLog ((entsL ls).getD j []) j ls.length) (fun k => ls.length - k) 0 ⟨rfl, trivial⟩ ⟨Nat.zero_le _, Ext.refl _, fun j h => absurd h (by simp)⟩ ?_
  rintro k J Hk ⟨hk, hE, hok⟩
  refine wpSeq fun F4 hF4 => ?_
  refine wpSeq fun F5 hF5 => ?_
  refine wpRegion ?_
  refine seqQ rfl rfl (yMove (v := .int _ _) rfl rfl) ?_
  refine seqQ rfl rfl (yMove (v := .slice _ _ _) rfl rfl) ?_
  refine seqQ rfl rfl (yLen rfl Try.underlying33 rfl) ?_
  refine seqQ rfl rfl (yLss rfl rfl rfl) ?_
  refine seqNil ?_
  refine hF5 _ _ ?_; clear hF5
  -- if t7
  refine wpIf rfl (fun hlt => ?_) (fun hlt => ?_)
  · skip
    have hkl : k < ls.length := by omega
    obtain ⟨p, ep, hp⟩ := (h.1.ext hE).at1 hkl
    have hL := h.2 _ (List.getElem_mem hkl)
    have hsL := hs.2 _ (List.getElem_mem hkl)
    have hg := entsL_get hkl
    generalize ls[k] = L at *
    refine wpSkip ?_
    refine hF4 _ _ ?_; clear hF4
    refine wpSeq fun F6 hF6 => ?_
    refine wpBlock ?_
    refine wpSeq fun F7 hF7 => ?_
    refine wpRegion ?_
    refine seqQ rfl rfl (yMove (v := .slice _ _ _) rfl rfl) ?_
    refine seqQ rfl rfl (yMove (v := .int _ _) rfl rfl) ?_
    refine seqQ rfl rfl (yIdxP1 rfl Try.underlying33 Try.sizeOf23 rfl rfl ep rfl hkl) ?_
    refine seqQ rfl rfl (yLoad rfl Try.underlying23 rfl rfl (show cellH Hk _ = some (.slice L.A L.l.length L.c) from hp)) ?_
    refine seqQ rfl rfl (yMove (v := .int _ _) rfl rfl) ?_
    refine seqQ rfl rfl (yMove (v := .slice _ _ _) rfl rfl) ?_
    refine seqQ rfl rfl (yLen rfl Try.underlying33 rfl) ?_
    -- e slot 17: call F18<farandole/farandoleref57.Valid> t13 t14 t16
    refine seqE rfl rfl (stepCall rfl Try.call18 rfl ?_)
    refine (rlogValid_c L.l L.A L.c k ls.length Hk (hL.ext hE) hsL).mono ?_
    rintro v H2 ⟨rfl, x2⟩
    rw [← hg]
    refine seqQ rfl rfl (yNot rfl rfl) ?_
    refine seqNil ?_
    refine hF7 _ _ ?_; clear hF7
    -- if t18
    refine wpCond rfl (fun hv => ?_) (fun hv => ?_)
    · skip
      have hv : ¬ ValidLog ((entsL ls).getD k []) k ls.length := by simpa using hv
      refine wpSeq fun F8 hF8 => ?_
      refine wpRegion ?_
      refine seqQ rfl rfl (yAssign (v := .bool _) rfl rfl) ?_
      refine seqNil ?_
      refine hF8 _ _ ?_; clear hF8
      -- ret
      refine wpRet (fin1 (v := .bool _) rfl rfl ?_)
      exact ⟨by rw [decide_eq_false (fun h => hv (by have := h.2 k (by omega); rwa [he] at this))], hE.trans x2⟩
    · skip
      have hv : ValidLog ((entsL ls).getD k []) k ls.length := by simpa using hv
      refine wpSkip ?_
      refine hF6 _ _ ?_; clear hF6
      refine wpRegion ?_
      refine seqQ rfl rfl (yMove (v := .int _ _) rfl rfl) ?_
      refine seqQ rfl rfl (yAdd rfl rfl rfl (by unfold In64; omega)) ?_
      refine seqQ rfl rfl (yAssign (v := .int _ _) rfl rfl) ?_
      refine seqNil ?_
      -- end loop
      exact loopEnd (k + 1) (by repeat (first | (with_reducible exact Agree.refl _ _) | refine Agree.upd ?_ rfl | refine Agree.over ?_ rfl)) (by omega) ⟨rfl, trivial⟩ ⟨hkl, hE.trans x2, fun j hj => (by
        by_cases e : j = k
        · subst e; exact hv
        · exact hok j (by omega))⟩
  · skip
    obtain rfl : k = ls.length := by omega
    refine wpExit ?_
    refine hF2 _ _ ?_; clear hF2
    refine wpSeq fun F9 hF9 => ?_
    refine wpRegion ?_
    refine seqQ rfl rfl (yMove (v := .slice _ _ _) rfl rfl) ?_
    refine seqQ rfl rfl (yLen rfl Try.underlying33 rfl) ?_
    refine seqQ rfl rfl (yGeq rfl rfl rfl) ?_
    -- guard t22
    first | refine seqG rfl rfl rfl rfl (fun h22 => ?_) (fun h22 => ?_) | refine seqGB rfl rfl rfl rfl (fun h22 => ?_) (fun h22 => ?_)
    rotate_left
    · skip
      refine seqU rfl rfl ?_
      refine seqU rfl rfl ?_
      refine seqU rfl rfl ?_
      refine seqQ rfl rfl (yPickF (v := .bool _) rfl rfl rfl) ?_
      refine seqQ rfl rfl (yAssign (v := .bool _) rfl rfl) ?_
      refine seqNil ?_
      refine hF9 _ _ ?_; clear hF9
      refine wpRet (fin1 (v := .bool _) rfl rfl ?_)
      exact ⟨by rw [decide_eq_false (fun h => by have := h.1; omega)], hE⟩
    refine seqQ rfl rfl (yMove (v := .slice _ _ _) rfl rfl) ?_
    refine seqQ rfl rfl (yLen rfl Try.underlying33 rfl) ?_
    refine seqQ rfl rfl (yLeq rfl rfl rfl) ?_
    refine seqQ rfl rfl (yPickT (v := .bool _) rfl rfl rfl) ?_
    refine seqQ rfl rfl (yAssign (v := .bool _) rfl rfl) ?_
    refine seqNil ?_
    refine hF9 _ _ ?_; clear hF9
    -- ret
    refine wpRet (fin1 (v := .bool _) rfl rfl ?_)
    exact ⟨by congr 1; rw [decide_eq_decide]; exact ⟨fun h => ⟨by omega, fun r hr => by rw [he]; exact hok r (by omega)⟩, fun h => by have := h.1; omega⟩, hE⟩
end Go.Proofs.Ytbanngdijmglbaa
