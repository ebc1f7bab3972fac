/- The document's histories: matched. The document's logs: the clock of a message. -/
import Derived.Test.YtbanngdijmglbaaM18
namespace Go.Proofs.Ytbanngdijmglbaa
open Go.RowKit

set_option maxRecDepth 100000 in
theorem rlabels_c (l : List VH) (A : Option Addr) (ca : Nat) (send : Bool) (peer : Int) (H : Heap) (h : Rd eVH H A l) (hl : l.length ≤ 100000) :
    CallsH Try.prog 82 [.slice A l.length ca, .bool send, .int .i64 peer] H fun v H' => Own eInt 3 H' H.size v (labelsOf (l.map VH.ev) send peer) ∧ Ext H H' := by
  refine callsH_of Try.func82 rfl Try.ntmps82 (Nat.le_of_ble_eq_true rfl) ?_
  refine wpSeq fun F1 hF1 => ?_
  refine wpRegion ?_
  refine seqQ rfl rfl (yAssign (v := .slice _ _ _) rfl rfl) ?_
  refine seqNil ?_
  refine hF1 _ _ ?_; clear hF1
  refine wpSeq fun F2 hF2 => ?_
  refine wpRegion ?_
  refine seqQ rfl rfl (yAssign (v := .slice _ _ _) rfl rfl) ?_
  refine seqNil ?_
  refine hF2 _ _ ?_; clear hF2
  refine wpSeq fun F3 hF3 => ?_
  refine wpSeq fun F4 hF4 => ?_
  refine wpRegion ?_
  refine seqQ rfl rfl (yAssign (v := .int _ _) rfl rfl) ?_
  refine seqNil ?_
  refine hF4 _ _ ?_; clear hF4
  -- loop
  refine wpBlock ?_
  refine wpLoopS [7, 8, 9, 10, 11, 12, 13, 14, 15, 16, 17, 18, 19, 20, 21, 22, 23, 24, 25, 26, 27, 28, 29, 30, 31, 32, 33, 34, 35, 36, 37, 38] (fun y : Nat × Value => [(8, .int .i64 y.1), (7, y.2)]) (fun y H' => y.1 ≤ l.length ∧ Ext H H' ∧ Own eInt 3 H' H.size y.2 (labelsOf ((l.map VH.ev).take y.1) send peer)) (fun y => l.length - y.1) (0, .slice none 0 0) ⟨rfl, rfl, trivial⟩ ⟨Nat.zero_le _, Ext.refl _, Own.nil _ _⟩ ?_
  rintro ⟨i, m⟩ J2 Hi ⟨hi, hEi, om⟩
  dsimp only at hi om
  have hml := labels_len ((l.map VH.ev).take i) send peer
  rw [List.length_take, List.length_map] at hml
  obtain ⟨M, mc, rfl, -⟩ := om.form
  have zi := hEi.size
  refine wpSeq fun F5 hF5 => ?_
  refine wpSeq fun F6 hF6 => ?_
  refine wpRegion ?_
  refine seqQ rfl rfl (yMove (v := .int _ _) rfl rfl) ?_
  refine seqQ rfl rfl (yMove (v := .slice _ _ _) rfl rfl) ?_
  refine seqQ rfl rfl (yLen rfl Try.underlying51 rfl) ?_
  refine seqQ rfl rfl (yLss rfl rfl rfl) ?_
  refine seqNil ?_
  refine hF6 _ _ ?_; clear hF6
  -- if t12
  refine wpIf rfl (fun hlt2 => ?_) (fun hlt2 => ?_)
  · skip
    have hil : i < l.length := by dsimp only at hlt2; omega
    obtain ⟨q, eq, hq⟩ := (h.ext hEi).at hil
    have ht1 : (l.map VH.ev).take (i + 1) = (l.map VH.ev).take i ++ [l[i].ev] := take_map_succ VH.ev hil
    generalize l[i] = x at *
    have hno : ¬ (x.ev.send = send ∧ x.ev.peer = peer) → labelsOf ((l.map VH.ev).take (i + 1)) send peer = labelsOf ((l.map VH.ev).take i) send peer := fun hn => by
      rw [ht1]
      unfold labelsOf
      rw [List.filter_append, List.filter_cons_of_neg (by simpa using hn)]
      simp
    have hyes : x.ev.send = send ∧ x.ev.peer = peer → labelsOf ((l.map VH.ev).take (i + 1)) send peer = labelsOf ((l.map VH.ev).take i) send peer ++ [x.ev.label] := fun hn => by
      rw [ht1]
      unfold labelsOf
      rw [List.filter_append, List.filter_cons_of_pos (by simpa using hn), List.map_append]
      rfl
    refine wpSkip ?_
    refine hF5 _ _ ?_; clear hF5
    refine wpSeq fun F7 hF7 => ?_
    refine wpBlock ?_
    refine wpSeq fun F8 hF8 => ?_
    refine wpRegion ?_
    refine seqQ rfl rfl (yMove (v := .slice _ _ _) rfl rfl) ?_
    refine seqQ rfl rfl (yMove (v := .int _ _) rfl rfl) ?_
    refine seqQ rfl rfl (yIdxP rfl Try.underlying51 Try.sizeOf26 rfl rfl eq rfl hil) ?_
    refine seqQ rfl rfl (yFieldAddr rfl Try.underlying26 rfl Try.sizeOf4 rfl rfl) ?_
    refine seqQ rfl rfl (yLoad rfl Try.underlying4 rfl rfl (show cellH _ _ = some (.bool x.ev.send) from hq 1 _ rfl)) ?_
    refine seqQ rfl rfl (yMove (v := .bool _) rfl rfl) ?_
    refine seqQ rfl rfl (yEqlB rfl Try.underlying4 rfl rfl) ?_
    -- guard t22
    refine seqGB rfl rfl rfl rfl (fun hsd => ?_) (fun hsd => ?_)
    · skip
      have hsd : x.ev.send = send := by simpa using hsd
      refine seqQ rfl rfl (yMove (v := .slice _ _ _) rfl rfl) ?_
      refine seqQ rfl rfl (yMove (v := .int _ _) rfl rfl) ?_
      refine seqQ rfl rfl (yIdxP rfl Try.underlying51 Try.sizeOf26 rfl rfl eq rfl hil) ?_
      refine seqQ rfl rfl (yFieldAddr rfl Try.underlying26 rfl Try.sizeOf3 rfl rfl) ?_
      refine seqQ rfl rfl (yLoad rfl Try.underlying3 rfl rfl (show cellH _ _ = some (.int .i64 x.ev.peer) from hq 2 _ rfl)) ?_
      refine seqQ rfl rfl (yMove (v := .int _ _) rfl rfl) ?_
      refine seqQ rfl rfl (yEql rfl rfl rfl) ?_
      refine seqQ rfl rfl (yPickT (v := .bool _) rfl rfl rfl) ?_
      refine seqNil ?_
      refine hF8 _ _ ?_; clear hF8
      -- if t30
      refine wpCond rfl (fun hpr => ?_) (fun hpr => ?_)
      · skip
        have hpr : x.ev.peer = peer := by simpa using hpr
        refine wpRegion ?_
        refine seqQ rfl rfl (yMove (v := .slice _ _ _) rfl rfl) ?_
        refine seqQ rfl rfl (yMove (v := .slice _ _ _) rfl rfl) ?_
        refine seqQ rfl rfl (yMove (v := .int _ _) rfl rfl) ?_
        refine seqQ rfl rfl (yIdxP rfl Try.underlying51 Try.sizeOf26 rfl rfl eq rfl hil) ?_
        refine seqQ rfl rfl (yFieldAddr rfl Try.underlying26 rfl Try.sizeOf3 rfl rfl) ?_
        refine seqQ rfl rfl (yLoad rfl Try.underlying3 rfl rfl (show cellH _ _ = some (.int .i64 x.ev.label) from hq 3 _ rfl)) ?_
        refine seqN rfl rfl (nBuildSlice (vs := [.int _ _]) rfl Try.underlying27 Try.sizeOf3 Try.zeroValue3 rfl rfl rfl rfl) (fun g37 H37 hx37 hB37 hg37 hl37 => ?_)
        -- e slot 38: builtin append t31 t37 : [27, 27]
        refine seqE rfl rfl (stepApp (c := eInt) (om.ext hx37) rfl Try.underlying27 elem_eInt rfl (by omega) rfl rfl rfl (Blk.rd (c := eInt) (l := [x.ev.label]) hB37) (by simp only [List.length_singleton]; omega) (by have := hx37.size; omega) ?_)
        intro v' H3 o3 g3
        rw [← hyes ⟨hsd, hpr⟩] at o3
        have hE3 : Ext H H3 := g3.ext (hEi.trans hx37) (fun g hg => (om.lt g hg).1)
        obtain ⟨A3, c3, rfl, -⟩ := o3.form
        refine seqQ rfl rfl (yAssign (v := .slice _ _ _) rfl rfl) ?_
        refine seqNil ?_
        refine hF7 _ _ ?_; clear hF7
        refine wpRegion ?_
        refine seqQ rfl rfl (yMove (v := .int _ _) rfl rfl) ?_
        refine seqQ rfl rfl (yAdd rfl rfl rfl (by unfold In64; omega)) ?_
        refine seqQ rfl rfl (yAssign (v := .int _ _) rfl rfl) ?_
        refine seqNil ?_
        -- end loop
        exact loopEnd (i + 1, _) (by repeat (first | (with_reducible exact Agree.refl _ _) | refine Agree.upd ?_ rfl | refine Agree.over ?_ rfl)) (by dsimp only; omega) ⟨rfl, rfl, trivial⟩ ⟨hil, hE3, o3⟩
      · skip
        have hpr : ¬ x.ev.peer = peer := by simpa using hpr
        rw [← hno (fun h => hpr h.2)] at om ⊢
        refine wpSkip ?_
        refine hF7 _ _ ?_; clear hF7
        refine wpRegion ?_
        refine seqQ rfl rfl (yMove (v := .int _ _) rfl rfl) ?_
        refine seqQ rfl rfl (yAdd rfl rfl rfl (by unfold In64; omega)) ?_
        refine seqQ rfl rfl (yAssign (v := .int _ _) rfl rfl) ?_
        refine seqNil ?_
        -- end loop
        exact loopEnd (i + 1, _) (by repeat (first | (with_reducible exact Agree.refl _ _) | refine Agree.upd ?_ rfl | refine Agree.over ?_ rfl)) (by dsimp only; omega) ⟨rfl, rfl, trivial⟩ ⟨hil, hEi, om⟩
    · skip
      have hsd : ¬ x.ev.send = send := by simpa using hsd
      rw [← hno (fun h => hsd h.1)] at om ⊢
      refine seqU rfl rfl ?_
      refine seqU rfl rfl ?_
      refine seqU rfl rfl ?_
      refine seqU rfl rfl ?_
      refine seqU rfl rfl ?_
      refine seqU rfl rfl ?_
      refine seqU rfl rfl ?_
      refine seqQ rfl rfl (yPickF (v := .bool _) rfl rfl rfl) ?_
      refine seqNil ?_
      refine hF8 _ _ ?_; clear hF8
      -- if t30
      refine wpF rfl ?_
      refine wpSkip ?_
      refine hF7 _ _ ?_; clear hF7
      refine wpRegion ?_
      refine seqQ rfl rfl (yMove (v := .int _ _) rfl rfl) ?_
      refine seqQ rfl rfl (yAdd rfl rfl rfl (by unfold In64; omega)) ?_
      refine seqQ rfl rfl (yAssign (v := .int _ _) rfl rfl) ?_
      refine seqNil ?_
      -- end loop
      exact loopEnd (i + 1, _) (by repeat (first | (with_reducible exact Agree.refl _ _) | refine Agree.upd ?_ rfl | refine Agree.over ?_ rfl)) (by dsimp only; omega) ⟨rfl, rfl, trivial⟩ ⟨hil, hEi, om⟩
  · skip
    obtain rfl : i = l.length := by dsimp only at hlt2; omega
    rw [show (l.map VH.ev).take l.length = l.map VH.ev from List.take_of_length_le (by simp)] at om ⊢
    refine wpExit ?_
    refine hF3 _ _ ?_; clear hF3
    refine wpSeq fun F9 hF9 => ?_
    refine wpRegion ?_
    refine seqQ rfl rfl (yMove (v := .slice _ _ _) rfl rfl) ?_
    refine seqQ rfl rfl (yAssign (v := .slice _ _ _) rfl rfl) ?_
    refine seqNil ?_
    refine hF9 _ _ ?_; clear hF9
    -- ret
    refine wpRet (fin1 (v := .slice _ _ _) rfl rfl ?_)
    exact ⟨om, hEi⟩
set_option maxRecDepth 100000 in
theorem r19Proper_c (hs : List HH) (B : Option Addr) (cb : Nat) (H : Heap) (h : HsRd H B hs) (hl : hs.length ≤ 100000) (hl2 : ∀ x ∈ hs, x.l.length ≤ 100000) :
    CallsH Try.prog 81 [.slice B hs.length cb] H fun v H' => v = .bool (decide (PropH (evsL hs))) ∧ Ext H H' := by
  have he := evsL_len hs
  refine callsH_of Try.func81 rfl Try.ntmps81 (Nat.le_of_ble_eq_true rfl) ?_
  refine wpSeq fun F1 hF1 => ?_
  refine wpRegion ?_
  refine seqQ rfl rfl (yAssign (v := .bool _) rfl rfl) ?_
  refine seqNil ?_
  refine hF1 _ _ ?_; clear hF1
  refine wpSeq fun F2 hF2 => ?_
  refine wpSeq fun F3 hF3 => ?_
  refine wpRegion ?_
  refine seqQ rfl rfl (yAssign (v := .int _ _) rfl rfl) ?_
  refine seqNil ?_
  refine hF3 _ _ ?_; clear hF3
  -- loop
  refine wpBlock ?_
  refine wpLoopS [2, 3, 4, 5, 6, 7, 8, 9, 10, 11, 12, 13, 14, 15, 16, 17, 18, 19, 20, 21, 22, 23, 24, 25, 26, 27, 28, 29, 30, 31, 32, 33, 34, 35, 36, 37, 38, 39, 40, 41, 42, 43, 44, 45, 46, 47, 48, 49] (fun k : Nat => [(3, .int .i64 k)]) (fun k H' => k ≤ hs.length ∧ Ext H H' ∧ ∀ j, j < k → ∀ x ∈ (evsL hs).getD j [], okEv j hs.length x) (fun k => hs.length - k) 0 ⟨rfl, trivial⟩ ⟨Nat.zero_le _, Ext.refl _, fun j h => absurd h (by simp)⟩ ?_
  rintro k J Hk ⟨hk, hE, hok⟩
  refine wpSeq fun F4 hF4 => ?_
  refine wpSeq fun F5 hF5 => ?_
  refine wpRegion ?_
  refine seqQ rfl rfl (yMove (v := .int _ _) rfl rfl) ?_
  refine seqQ rfl rfl (yMove (v := .slice _ _ _) rfl rfl) ?_
  refine seqQ rfl rfl (yLen rfl Try.underlying106 rfl) ?_
  refine seqQ rfl rfl (yLss rfl rfl rfl) ?_
  refine seqNil ?_
  refine hF5 _ _ ?_; clear hF5
  -- if t9
  refine wpIf rfl (fun hlt => ?_) (fun hlt => ?_)
  · skip
    have hkl : k < hs.length := by omega
    obtain ⟨p, ep, hp⟩ := h.1.at1 hkl
    have hL := h.2 _ (List.getElem_mem hkl)
    have hsL := hl2 _ (List.getElem_mem hkl)
    have hg := evsL_get hkl
    generalize hs[k] = L at *
    refine wpSkip ?_
    refine hF4 _ _ ?_; clear hF4
    refine wpSeq fun F6 hF6 => ?_
    refine wpBlock ?_
    refine wpSeq fun F7 hF7 => ?_
    refine wpRegion ?_
    refine seqQ rfl rfl (yAssign (v := .int _ _) rfl rfl) ?_
    refine seqNil ?_
    refine hF7 _ _ ?_; clear hF7
    -- loop
    refine wpBlock ?_
    refine wpLoopS [2, 4, 5, 12, 13, 14, 15, 16, 17, 18, 19, 20, 21, 22, 23, 24, 25, 26, 27, 28, 29, 30, 31, 32, 33, 34, 35, 36, 37, 38, 39, 40, 41, 42, 43, 44, 45, 46, 47, 48, 49] (fun i : Nat => [(4, .int .i64 i)]) (fun i H' => i ≤ L.l.length ∧ Ext H H' ∧ ∀ x ∈ (L.l.map VH.ev).take i, okEv k hs.length x) (fun i => L.l.length - i) 0 ⟨rfl, trivial⟩ ⟨Nat.zero_le _, hE, (fun x h => by cases h)⟩ ?_
    rintro i J2 Hi ⟨hi, hEi, hoi⟩
    refine wpSeq fun F8 hF8 => ?_
    refine wpSeq fun F9 hF9 => ?_
    refine wpRegion ?_
    refine seqQ rfl rfl (yMove (v := .int _ _) rfl rfl) ?_
    refine seqQ rfl rfl (yMove (v := .slice _ _ _) rfl rfl) ?_
    refine seqQ rfl rfl (yMove (v := .int _ _) rfl rfl) ?_
    refine seqQ rfl rfl (yIdxP1 rfl Try.underlying106 Try.sizeOf51 rfl rfl ep rfl hkl) ?_
    refine seqQ rfl rfl (yLoad rfl Try.underlying51 rfl rfl (show cellH Hi _ = some (.slice L.A L.l.length L.c) from hEi.cell hp)) ?_
    refine seqQ rfl rfl (yLen rfl Try.underlying51 rfl) ?_
    refine seqQ rfl rfl (yLss rfl rfl rfl) ?_
    refine seqNil ?_
    refine hF9 _ _ ?_; clear hF9
    -- if t18
    refine wpIf rfl (fun hlt2 => ?_) (fun hlt2 => ?_)
    · skip
      have hil : i < L.l.length := by omega
      obtain ⟨q, eq, hq⟩ := (hL.ext hEi).at hil
      have hnx := mem_take_succ (P := fun x => okEv k hs.length x) (l := L.l.map VH.ev) (k := i) (by rw [List.length_map]; exact hil) hoi
      rw [List.getElem_map] at hnx
      have hmem : L.l[i].ev ∈ (evsL hs).getD k [] := by rw [hg]; exact List.mem_map_of_mem (List.getElem_mem hil)
      generalize L.l[i] = x at *
      refine wpSkip ?_
      refine hF8 _ _ ?_; clear hF8
      refine wpSeq fun F10 hF10 => ?_
      refine wpBlock ?_
      refine wpSeq fun F11 hF11 => ?_
      refine wpRegion ?_
      refine seqQ rfl rfl (yMove (v := .slice _ _ _) rfl rfl) ?_
      refine seqQ rfl rfl (yMove (v := .int _ _) rfl rfl) ?_
      refine seqQ rfl rfl (yIdxP1 rfl Try.underlying106 Try.sizeOf51 rfl rfl ep rfl hkl) ?_
      refine seqQ rfl rfl (yLoad rfl Try.underlying51 rfl rfl (show cellH Hi _ = some (.slice L.A L.l.length L.c) from hEi.cell hp)) ?_
      refine seqQ rfl rfl (yMove (v := .int _ _) rfl rfl) ?_
      refine seqQ rfl rfl (yIdxP rfl Try.underlying51 Try.sizeOf26 rfl rfl eq rfl hil) ?_
      refine seqQ rfl rfl (yLoadC (cs := evC x.ev x.VA x.vc) rfl Try.underlying26 rfl Try.sizeOf26 rfl hq) ?_
      refine seqN rfl rfl (nAlloc rfl Try.zeroValue26 rfl) (fun g5 H5 hx5 hB5 hg5 hl5 => ?_)
      -- e slot None: store T26 t5 t27
      refine seqE0 rfl rfl (stepStoreB rfl (by kernel_rfl) rfl rfl rfl hB5 rfl ?_)
      intro H2 h8 hK2
      have hE2 : Ext H H2 := (hEi.trans hx5).mine hK2 (by have := hEi.size; simp; omega)
      have hbad : ¬ okEv k hs.length x.ev → ¬ PropH (evsL hs) := fun hb hv => hb (by have := hv.2 k (by omega) _ hmem; rwa [he] at this)
      refine seqNil ?_
      refine hF11 _ _ ?_; clear hF11
      refine wpSeq fun F12 hF12 => ?_
      refine wpRegion ?_
      refine seqQ rfl rfl (yFieldAddr rfl Try.underlying26 rfl Try.sizeOf3 rfl rfl) ?_
      refine seqQ rfl rfl (yLoad rfl Try.underlying3 rfl rfl (h8.cell rfl)) ?_
      refine seqQ rfl rfl (yMove (v := .int _ _) rfl rfl) ?_
      refine seqQ rfl rfl (yNeq rfl rfl rfl) ?_
      first | refine seqG rfl rfl rfl rfl (fun h32 => ?_) (fun h32 => ?_) | refine seqGB rfl rfl rfl rfl (fun h32 => ?_) (fun h32 => ?_)
      · skip
        refine seqU rfl rfl ?_
        refine seqU rfl rfl ?_
        refine seqU rfl rfl ?_
        refine seqQ rfl rfl (yPickT (v := .bool _) rfl rfl rfl) ?_
        refine seqQ rfl rfl (yMove (v := .bool true) rfl rfl) ?_
        refine seqU rfl rfl ?_
        refine seqU rfl rfl ?_
        refine seqU rfl rfl ?_
        refine seqU rfl rfl ?_
        refine seqU rfl rfl ?_
        refine seqQ rfl rfl (yPickT (v := .bool _) rfl rfl rfl) ?_
        refine seqQ rfl rfl (yMove (v := .bool true) rfl rfl) ?_
        refine seqU rfl rfl ?_
        refine seqU rfl rfl ?_
        refine seqU rfl rfl ?_
        refine seqU rfl rfl ?_
        refine seqQ rfl rfl (yPickT (v := .bool _) rfl rfl rfl) ?_
        refine seqNil ?_
        refine hF12 _ _ ?_; clear hF12
        refine wpT rfl ?_
        refine wpSeq fun F13 hF13 => ?_
        refine wpRegion ?_
        refine seqQ rfl rfl (yAssign (v := .bool _) rfl rfl) ?_
        refine seqNil ?_
        refine hF13 _ _ ?_; clear hF13
        refine wpRet (fin1 (v := .bool _) rfl rfl ?_)
        exact ⟨by rw [decide_eq_false (hbad fun ho => by unfold okEv at ho; simp_all; try omega)], hE2⟩
      refine seqQ rfl rfl (yFieldAddr rfl Try.underlying26 rfl Try.sizeOf3 rfl rfl) ?_
      refine seqQ rfl rfl (yLoad rfl Try.underlying3 rfl rfl (h8.cell rfl)) ?_
      refine seqQ rfl rfl (yLss rfl rfl rfl) ?_
      refine seqQ rfl rfl (yPickF (v := .bool _) rfl rfl rfl) ?_
      first | refine seqG rfl rfl rfl rfl (fun h37 => ?_) (fun h37 => ?_) | refine seqGB rfl rfl rfl rfl (fun h37 => ?_) (fun h37 => ?_)
      · skip
        refine seqU rfl rfl ?_
        refine seqU rfl rfl ?_
        refine seqU rfl rfl ?_
        refine seqU rfl rfl ?_
        refine seqU rfl rfl ?_
        refine seqQ rfl rfl (yPickT (v := .bool _) rfl rfl rfl) ?_
        refine seqQ rfl rfl (yMove (v := .bool true) rfl rfl) ?_
        refine seqU rfl rfl ?_
        refine seqU rfl rfl ?_
        refine seqU rfl rfl ?_
        refine seqU rfl rfl ?_
        refine seqQ rfl rfl (yPickT (v := .bool _) rfl rfl rfl) ?_
        refine seqNil ?_
        refine hF12 _ _ ?_; clear hF12
        refine wpT rfl ?_
        refine wpSeq fun F14 hF14 => ?_
        refine wpRegion ?_
        refine seqQ rfl rfl (yAssign (v := .bool _) rfl rfl) ?_
        refine seqNil ?_
        refine hF14 _ _ ?_; clear hF14
        refine wpRet (fin1 (v := .bool _) rfl rfl ?_)
        exact ⟨by rw [decide_eq_false (hbad fun ho => by unfold okEv at ho; simp_all; try omega)], hE2⟩
      refine seqQ rfl rfl (yFieldAddr rfl Try.underlying26 rfl Try.sizeOf3 rfl rfl) ?_
      refine seqQ rfl rfl (yLoad rfl Try.underlying3 rfl rfl (h8.cell rfl)) ?_
      refine seqQ rfl rfl (yMove (v := .slice _ _ _) rfl rfl) ?_
      refine seqQ rfl rfl (yLen rfl Try.underlying106 rfl) ?_
      refine seqQ rfl rfl (yGeq rfl rfl rfl) ?_
      refine seqQ rfl rfl (yPickF (v := .bool _) rfl rfl rfl) ?_
      first | refine seqG rfl rfl rfl rfl (fun h44 => ?_) (fun h44 => ?_) | refine seqGB rfl rfl rfl rfl (fun h44 => ?_) (fun h44 => ?_)
      · skip
        refine seqU rfl rfl ?_
        refine seqU rfl rfl ?_
        refine seqU rfl rfl ?_
        refine seqU rfl rfl ?_
        refine seqQ rfl rfl (yPickT (v := .bool _) rfl rfl rfl) ?_
        refine seqNil ?_
        refine hF12 _ _ ?_; clear hF12
        refine wpT rfl ?_
        refine wpSeq fun F15 hF15 => ?_
        refine wpRegion ?_
        refine seqQ rfl rfl (yAssign (v := .bool _) rfl rfl) ?_
        refine seqNil ?_
        refine hF15 _ _ ?_; clear hF15
        refine wpRet (fin1 (v := .bool _) rfl rfl ?_)
        exact ⟨by rw [decide_eq_false (hbad fun ho => by unfold okEv at ho; simp_all; try omega)], hE2⟩
      refine seqQ rfl rfl (yFieldAddr rfl Try.underlying26 rfl Try.sizeOf3 rfl rfl) ?_
      refine seqQ rfl rfl (yLoad rfl Try.underlying3 rfl rfl (h8.cell rfl)) ?_
      refine seqQ rfl rfl (yMove (v := .int _ _) rfl rfl) ?_
      refine seqQ rfl rfl (yEql rfl rfl rfl) ?_
      refine seqQ rfl rfl (yPickF (v := .bool _) rfl rfl rfl) ?_
      refine seqNil ?_
      refine hF12 _ _ ?_; clear hF12
      -- if t49
      refine wpCond rfl (fun hc => ?_) (fun hc => ?_)
      · skip
        refine wpSeq fun F16 hF16 => ?_
        refine wpRegion ?_
        refine seqQ rfl rfl (yAssign (v := .bool _) rfl rfl) ?_
        refine seqNil ?_
        refine hF16 _ _ ?_; clear hF16
        -- ret
        refine wpRet (fin1 (v := .bool _) rfl rfl ?_)
        exact ⟨by rw [decide_eq_false (hbad fun ho => by unfold okEv at ho; simp_all)], hE2⟩
      · skip
        refine wpSkip ?_
        refine hF10 _ _ ?_; clear hF10
        refine wpRegion ?_
        refine seqQ rfl rfl (yMove (v := .int _ _) rfl rfl) ?_
        refine seqQ rfl rfl (yAdd rfl rfl rfl (by unfold In64; omega)) ?_
        refine seqQ rfl rfl (yAssign (v := .int _ _) rfl rfl) ?_
        refine seqNil ?_
        -- end loop
        exact loopEnd (i + 1) (by repeat (first | (with_reducible exact Agree.refl _ _) | refine Agree.upd ?_ rfl | refine Agree.over ?_ rfl)) (by omega) ⟨rfl, trivial⟩ ⟨hil, hE2, hnx ⟨by simp_all, by simp_all, by simp_all, by simp_all⟩⟩
    · skip
      obtain rfl : i = L.l.length := by omega
      rw [show (L.l.map VH.ev).take L.l.length = L.l.map VH.ev from List.take_of_length_le (by simp), ← hg] at hoi
      refine wpExit ?_
      refine hF6 _ _ ?_; clear hF6
      refine wpRegion ?_
      refine seqQ rfl rfl (yMove (v := .int _ _) rfl rfl) ?_
      refine seqQ rfl rfl (yAdd rfl rfl rfl (by unfold In64; omega)) ?_
      refine seqQ rfl rfl (yAssign (v := .int _ _) rfl rfl) ?_
      refine seqNil ?_
      -- end loop
      exact loopEnd (k + 1) (by repeat (first | (with_reducible exact Agree.refl _ _) | refine Agree.upd ?_ rfl | refine Agree.over ?_ rfl)) (by omega) ⟨rfl, trivial⟩ ⟨hkl, hEi, fun j hj => (by
        by_cases e : j = k
        · subst e; exact hoi
        · exact hok j (by omega))⟩
  · skip
    obtain rfl : k = hs.length := by omega
    refine wpExit ?_
    refine hF2 _ _ ?_; clear hF2
    refine wpSeq fun F17 hF17 => ?_
    refine wpRegion ?_
    refine seqQ rfl rfl (yMove (v := .slice _ _ _) rfl rfl) ?_
    refine seqQ rfl rfl (yLen rfl Try.underlying106 rfl) ?_
    refine seqQ rfl rfl (yLeq rfl rfl rfl) ?_
    refine seqQ rfl rfl (yAssign (v := .bool _) rfl rfl) ?_
    refine seqNil ?_
    refine hF17 _ _ ?_; clear hF17
    -- ret
    refine wpRet (fin1 (v := .bool _) rfl rfl ?_)
    exact ⟨by congr 1; rw [decide_eq_decide]; exact ⟨fun h => ⟨by omega, fun r hr => by rw [he]; exact hok r (by omega)⟩, fun h => by have := h.1; omega⟩, hE⟩
set_option maxRecDepth 100000 in
theorem pre_iff (a b : List Int) : a <+: b ↔ a.length ≤ b.length ∧ ∀ i, i < a.length → a.getD i 0 = b.getD i 0 := by
  rw [List.prefix_iff_eq_take]
  constructor
  · intro h
    have hl := congrArg List.length h
    rw [List.length_take] at hl
    refine ⟨by omega, fun i hi => ?_⟩
    rw [h]
    simp only [List.getD_eq_getElem?_getD]
    rw [List.getElem?_take, if_pos hi]
  · rintro ⟨hl, h⟩
    refine List.ext_getElem (by rw [List.length_take]; omega) fun i h1 h2 => ?_
    have := h i h1
    simp only [List.getD_eq_getElem?_getD] at this
    rw [List.getElem?_eq_getElem h1, List.getElem?_eq_getElem (by omega)] at this
    rw [List.getElem_take]
    simpa using this
set_option maxRecDepth 100000 in
set_option maxRecDepth 100000 in
theorem rmatched_c (hs : List HH) (B : Option Addr) (cb : Nat) (H : Heap) (h : HsRd H B hs) (hl : hs.length ≤ 100000) (hl2 : ∀ x ∈ hs, x.l.length ≤ 100000) :
    CallsH Try.prog 56 [.slice B hs.length cb] H fun v H' => ∃ n : Int, v = .tuple #[.int .i64 n, .bool (decide (MatchP (evsL hs)))] ∧ Ext H H' := by
  have he := evsL_len hs
  refine callsH_of Try.func56 rfl Try.ntmps56 (Nat.le_of_ble_eq_true rfl) ?_
  refine wpSeq fun F1 hF1 => ?_
  refine wpRegion ?_
  refine seqQ rfl rfl (yAssign (v := .int _ _) rfl rfl) ?_
  refine seqQ rfl rfl (yAssign (v := .bool _) rfl rfl) ?_
  refine seqNil ?_
  refine hF1 _ _ ?_; clear hF1
  refine wpSeq fun F2 hF2 => ?_
  refine wpSeq fun F3 hF3 => ?_
  refine wpRegion ?_
  refine seqQ rfl rfl (yMove (v := .slice _ _ _) rfl rfl) ?_
  -- e slot 11: call F81<farandole/farandoleref19.Proper> t10
  refine seqE rfl rfl (stepCall rfl Try.call81 rfl ?_)
  refine (r19Proper_c hs B cb H h hl hl2).mono ?_
  rintro v H1 ⟨rfl, hE⟩
  refine seqQ rfl rfl (yNot rfl rfl) ?_
  refine seqNil ?_
  refine hF3 _ _ ?_; clear hF3
  -- if t12
  refine wpCond rfl (fun hP => ?_) (fun hP => ?_)
  · skip
    have hP : ¬ PropH (evsL hs) := by simpa using hP
    refine wpSeq fun F4 hF4 => ?_
    refine wpRegion ?_
    refine seqQ rfl rfl (yAssign (v := .int _ _) rfl rfl) ?_
    refine seqQ rfl rfl (yAssign (v := .bool _) rfl rfl) ?_
    refine seqNil ?_
    refine hF4 _ _ ?_; clear hF4
    -- ret
    refine wpRet (fin2 (v := .int _ _) (v' := .bool _) rfl rfl rfl ?_)
    exact ⟨0, by rw [decide_eq_false (fun h : MatchP _ => hP h.1)], hE⟩
  · skip
    have hP : PropH (evsL hs) := by simpa using hP
    have hn6 : hs.length ≤ 6 := by have := hP.1; omega
    refine wpSkip ?_
    refine hF2 _ _ ?_; clear hF2
    refine wpSeq fun F5 hF5 => ?_
    refine wpRegion ?_
    refine seqQ rfl rfl (yAssign (v := .int _ _) rfl rfl) ?_
    refine seqNil ?_
    refine hF5 _ _ ?_; clear hF5
    refine wpSeq fun F6 hF6 => ?_
    refine wpSeq fun F7 hF7 => ?_
    refine wpRegion ?_
    refine seqQ rfl rfl (yAssign (v := .int _ _) rfl rfl) ?_
    refine seqNil ?_
    refine hF7 _ _ ?_; clear hF7
    -- loop
    refine wpBlock ?_
    refine wpLoopS [2, 3, 4, 5, 6, 7, 8, 9, 13, 14, 15, 16, 17, 18, 19, 20, 21, 22, 23, 24, 25, 26, 27, 28, 29, 30, 31, 32, 33, 34, 35, 36, 37, 38, 39, 40, 41, 42, 43, 44, 45, 46, 47, 48, 49, 50, 51, 52, 53, 54, 55, 56, 57, 58, 59, 60, 61] (fun x : Nat × Nat => [(5, .int .i64 x.1), (4, .int .i64 x.2)]) (fun x H' => x.1 ≤ hs.length ∧ x.2 ≤ x.1 * 600000 ∧ Ext H H' ∧ ∀ q, q < x.1 → ∀ p, p < hs.length → labelsOf ((evsL hs).getD q []) false p <+: labelsOf ((evsL hs).getD p []) true q) (fun x => hs.length - x.1) (0, 0) ⟨rfl, rfl, trivial⟩ ⟨Nat.zero_le _, Nat.zero_le _, hE, fun p h => absurd h (by simp)⟩ ?_
    rintro ⟨q, n⟩ J Hq ⟨hq, hn, hEq, hok⟩
    dsimp only at hq hn hok
    refine wpSeq fun F8 hF8 => ?_
    refine wpSeq fun F9 hF9 => ?_
    refine wpRegion ?_
    refine seqQ rfl rfl (yMove (v := .int _ _) rfl rfl) ?_
    refine seqQ rfl rfl (yMove (v := .slice _ _ _) rfl rfl) ?_
    refine seqQ rfl rfl (yLen rfl Try.underlying106 rfl) ?_
    refine seqQ rfl rfl (yLss rfl rfl rfl) ?_
    refine seqNil ?_
    refine hF9 _ _ ?_; clear hF9
    -- if t16
    refine wpIf rfl (fun hlt => ?_) (fun hlt => ?_)
    · skip
      have hql : q < hs.length := by dsimp only at hlt; omega
      obtain ⟨aq, eq, haq⟩ := h.1.at1 hql
      have hLq := h.2 _ (List.getElem_mem hql)
      have hsq := hl2 _ (List.getElem_mem hql)
      have hgq := evsL_get hql
      generalize hs[q] = Q at *
      refine wpSkip ?_
      refine hF8 _ _ ?_; clear hF8
      refine wpSeq fun F10 hF10 => ?_
      refine wpBlock ?_
      refine wpSeq fun F11 hF11 => ?_
      refine wpRegion ?_
      refine seqQ rfl rfl (yAssign (v := .int _ _) rfl rfl) ?_
      refine seqNil ?_
      refine hF11 _ _ ?_; clear hF11
      -- loop
      refine wpBlock ?_
      refine wpLoopS [2, 3, 4, 6, 7, 8, 9, 19, 20, 21, 22, 23, 24, 25, 26, 27, 28, 29, 30, 31, 32, 33, 34, 35, 36, 37, 38, 39, 40, 41, 42, 43, 44, 45, 46, 47, 48, 49, 50, 51, 52, 53, 54, 55, 56, 57, 58, 59, 60, 61] (fun x : Nat × Nat => [(6, .int .i64 x.1), (4, .int .i64 x.2)]) (fun x H' => x.1 ≤ hs.length ∧ x.2 ≤ q * 600000 + x.1 * 100000 ∧ Ext H H' ∧ ∀ p, p < x.1 → labelsOf ((evsL hs).getD q []) false p <+: labelsOf ((evsL hs).getD p []) true q) (fun x => hs.length - x.1) (0, n) ⟨rfl, rfl, trivial⟩ ⟨Nat.zero_le _, Nat.le_trans hn (Nat.le_add_right _ _), hEq, fun p h => absurd h (by simp)⟩ ?_
      rintro ⟨p, n2⟩ J2 Hp ⟨hp, hn2, hEp, hok2⟩
      dsimp only at hp hn2 hok2
      refine wpSeq fun F12 hF12 => ?_
      refine wpSeq fun F13 hF13 => ?_
      refine wpRegion ?_
      refine seqQ rfl rfl (yMove (v := .int _ _) rfl rfl) ?_
      refine seqQ rfl rfl (yMove (v := .slice _ _ _) rfl rfl) ?_
      refine seqQ rfl rfl (yLen rfl Try.underlying106 rfl) ?_
      refine seqQ rfl rfl (yLss rfl rfl rfl) ?_
      refine seqNil ?_
      refine hF13 _ _ ?_; clear hF13
      -- if t22
      refine wpIf rfl (fun hlt2 => ?_) (fun hlt2 => ?_)
      · skip
        have hpl : p < hs.length := by dsimp only at hlt2; omega
        obtain ⟨ap, ep, hap⟩ := h.1.at1 hpl
        have hLp := h.2 _ (List.getElem_mem hpl)
        have hsp := hl2 _ (List.getElem_mem hpl)
        have hgp := evsL_get hpl
        generalize hs[p] = P at *
        refine wpSkip ?_
        refine hF12 _ _ ?_; clear hF12
        refine wpSeq fun F14 hF14 => ?_
        refine wpBlock ?_
        refine wpSeq fun F15 hF15 => ?_
        refine wpRegionD Try_mixed [.q, .q, .q, .q, .q, .e, .q, .q, .q, .q, .q, .e, .q, .q] 11 [0, 0, 3, 7, 0, 31, 0, 0, 192, 448, 0, 2047, 4095, 8191] [] (by kernel_rfl) _ rfl [0, 1, 2, 3, 4, 5, 6, 7, 8, 9, 10] rfl (by simp) ?_
        refine lexQ rfl rfl rfl rfl (fun H hM => (yMove (v := .slice _ _ _) rfl rfl)) ?_
        refine lexQ rfl rfl rfl rfl (fun H hM => (yMove (v := .int _ _) rfl rfl)) ?_
        refine lexQ rfl rfl rfl rfl (fun H hM => (yIdxP1 rfl Try.underlying106 Try.sizeOf51 rfl rfl eq rfl hql)) ?_
        refine lexQ rfl rfl rfl rfl (fun H hM => (yLoad rfl Try.underlying51 rfl rfl (hM.ext.cell (show cellH Hp _ = some (.slice Q.A Q.l.length Q.c) from hEp.cell haq)))) ?_
        refine lexQ rfl rfl rfl rfl (fun H hM => (yMove (v := .int _ _) rfl rfl)) ?_
        -- e slot 30: call F82<farandole/farandoleref19.labels> t28 [b:false] t29
        refine lexX0 rfl rfl rfl rfl rfl (by simp) (fun hM30 => stepCall rfl Try.call82 rfl ?_)
        refine (rlabels_c Q.l Q.A Q.c false p Hp (hLq.ext hEp) hsq).mono ?_
        rintro v H2 ⟨o2, x2⟩
        refine ⟨x2, fun _ => ?_⟩
        obtain ⟨G, gc, rfl, -⟩ := o2.form
        have l2 := labels_len (Q.l.map VH.ev) false p
        rw [List.length_map] at l2
        rw [← hgq] at o2 l2 ⊢
        refine lexQ rfl rfl rfl rfl (fun H hM => (yMove (v := .slice _ _ _) rfl rfl)) ?_
        refine lexQ rfl rfl rfl rfl (fun H hM => (yMove (v := .int _ _) rfl rfl)) ?_
        refine lexQ rfl rfl rfl rfl (fun H hM => (yIdxP1 rfl Try.underlying106 Try.sizeOf51 rfl rfl ep rfl hpl)) ?_
        refine lexQ rfl rfl rfl rfl (fun H hM => (yLoad rfl Try.underlying51 rfl rfl (hM.ext.cell (show cellH Hp _ = some (.slice P.A P.l.length P.c) from hEp.cell hap)))) ?_
        refine lexQ rfl rfl rfl rfl (fun H hM => (yMove (v := .int _ _) rfl rfl)) ?_
        -- tail
        refine lexNil0 rfl (fun hM => ?_)
        -- e slot 36: call F82<farandole/farandoleref19.labels> t34 [b:true] t35
        refine seqE rfl rfl (stepCall rfl Try.call82 rfl ?_)
        refine (rlabels_c P.l P.A P.c true q H2 ((hLp.ext hEp).ext x2) hsp).mono ?_
        rintro v H3 ⟨o3, x3⟩
        obtain ⟨S, sc, rfl, -⟩ := o3.form
        have l3 := labels_len (P.l.map VH.ev) true q
        rw [List.length_map] at l3
        rw [← hgp] at o3 l3 ⊢
        have rG := (Own.rd (o2.ext x3)).2
        have rS := (Own.rd o3).2
        have hE3 := (hEp.trans x2).trans x3
        have hbad : ¬ labelsOf ((evsL hs).getD q []) false p <+: labelsOf ((evsL hs).getD p []) true q → ¬ MatchP (evsL hs) := fun hb hv => hb (hv.2 p (by omega) q (by omega))
        clear o2 o3
        generalize eqg : labelsOf ((evsL hs).getD q []) false p = got at *
        generalize eqs : labelsOf ((evsL hs).getD p []) true q = snt at *
        rw [pre_iff] at hbad
        refine seqQ rfl rfl (yAssign (v := .slice _ _ _) rfl rfl) ?_
        refine seqQ rfl rfl (yAssign (v := .slice _ _ _) rfl rfl) ?_
        refine seqNil ?_
        refine hF15 _ _ ?_; clear hF15
        refine wpSeq fun F16 hF16 => ?_
        refine wpSeq fun F17 hF17 => ?_
        refine wpRegion ?_
        refine seqQ rfl rfl (yAssign (v := .int _ _) rfl rfl) ?_
        refine seqNil ?_
        refine hF17 _ _ ?_; clear hF17
        -- loop
        refine wpBlock ?_
        refine wpLoopS [2, 3, 9, 37, 38, 39, 40, 41, 42, 43, 44, 45, 46, 47, 48, 49, 50, 51, 52, 53, 54, 55, 56, 57] (fun i : Nat => [(9, .int .i64 i)]) (fun i H' => i ≤ got.length ∧ i ≤ snt.length ∧ H' = H3 ∧ ∀ j, j < i → got.getD j 0 = snt.getD j 0) (fun i => got.length - i) 0 ⟨rfl, trivial⟩ ⟨Nat.zero_le _, Nat.zero_le _, rfl, fun p h => absurd h (by simp)⟩ ?_
        rintro i J3 Hi ⟨hi, hi2, e, hsame⟩
        obtain rfl := e.symm
        clear e
        refine wpSeq fun F18 hF18 => ?_
        refine wpSeq fun F19 hF19 => ?_
        refine wpRegion ?_
        refine seqQ rfl rfl (yMove (v := .int _ _) rfl rfl) ?_
        refine seqQ rfl rfl (yMove (v := .slice _ _ _) rfl rfl) ?_
        refine seqQ rfl rfl (yLen rfl Try.underlying27 rfl) ?_
        refine seqQ rfl rfl (yLss rfl rfl rfl) ?_
        refine seqNil ?_
        refine hF19 _ _ ?_; clear hF19
        -- if t40
        refine wpIf rfl (fun hlt3 => ?_) (fun hlt3 => ?_)
        · skip
          have hig : i < got.length := by omega
          refine wpSkip ?_
          refine hF18 _ _ ?_; clear hF18
          refine wpSeq fun F20 hF20 => ?_
          refine wpBlock ?_
          refine wpSeq fun F21 hF21 => ?_
          refine wpRegionD Try_mixed [.q, .q, .q, .q, .q, .q, .q, .q, .q, .q, .q, .q, .q, .q, .q] 13 [0, 0, 2, 7, 15, 31, 31, 127, 255, 31, 31, 1567, 3615, 8191, 16383] [] (by kernel_rfl) _ rfl [0, 1, 2, 3, 4, 5, 6, 7, 8, 9, 10, 11, 12] rfl (by simp) ?_
          refine lexQ rfl rfl rfl rfl (fun H hM => (yMove (v := .int _ _) rfl rfl)) ?_
          refine lexQ rfl rfl rfl rfl (fun H hM => (yMove (v := .slice _ _ _) rfl rfl)) ?_
          refine lexQ rfl rfl rfl rfl (fun H hM => (yLen rfl Try.underlying27 rfl)) ?_
          refine lexQ rfl rfl rfl rfl (fun H hM => (yGeq rfl rfl rfl)) ?_
          -- guard t47
          by_cases hlong : snt.length ≤ i
          · skip
            rw [show decide ((i : Int) ≥ (snt.length : Int)) = true by simp; omega]
            refine lexQ rfl rfl rfl rfl (fun H hM => (yMove (v := .bool true) rfl rfl)) ?_
            refine lexU rfl rfl rfl ?_
            refine lexU rfl rfl rfl ?_
            refine lexU rfl rfl rfl ?_
            refine lexU rfl rfl rfl ?_
            refine lexU rfl rfl rfl ?_
            refine lexU rfl rfl rfl ?_
            refine lexU rfl rfl rfl ?_
            refine lexU rfl rfl rfl ?_
            -- tail
            refine lexNil0 rfl (fun hM => ?_)
            refine seqU rfl rfl ?_
            refine seqQ rfl rfl (yPickT (v := .bool _) rfl rfl rfl) ?_
            refine seqNil ?_
            refine hF21 _ _ ?_; clear hF21
            -- if t57
            refine wpT rfl ?_
            refine wpSeq fun F22 hF22 => ?_
            refine wpRegion ?_
            refine seqQ rfl rfl (yAssign (v := .int _ _) rfl rfl) ?_
            refine seqQ rfl rfl (yAssign (v := .bool _) rfl rfl) ?_
            refine seqNil ?_
            refine hF22 _ _ ?_; clear hF22
            -- ret
            refine wpRet (fin2 (v := .int _ _) (v' := .bool _) rfl rfl rfl ?_)
            exact ⟨0, by rw [decide_eq_false (hbad fun hp => by have := hp.1; omega)], hE3⟩
          · skip
            have his : i < snt.length := by omega
            rw [show decide ((i : Int) ≥ (snt.length : Int)) = false by simp; omega]
            obtain ⟨pg, epg, hpg⟩ := rG.at1 hig
            obtain ⟨pss, eps, hps⟩ := rS.at1 his
            have gg : got.getD i 0 = got[i] := by rw [List.getD_eq_getElem?_getD, List.getElem?_eq_getElem hig]; rfl
            have gs : snt.getD i 0 = snt[i] := by rw [List.getD_eq_getElem?_getD, List.getElem?_eq_getElem his]; rfl
            refine lexQ rfl rfl rfl rfl (fun H hM => (yMove (v := .bool false) rfl rfl)) ?_
            refine lexQ rfl rfl rfl rfl (fun H hM => (yMove (v := .slice _ _ _) rfl rfl)) ?_
            refine lexQ rfl rfl rfl rfl (fun H hM => (yMove (v := .int _ _) rfl rfl)) ?_
            refine lexQ rfl rfl rfl rfl (fun H hM => (yIdxP1 rfl Try.underlying27 Try.sizeOf3 rfl rfl epg rfl hig)) ?_
            refine lexQ rfl rfl rfl rfl (fun H hM => (yLoad rfl Try.underlying3 rfl rfl (hM.ext.cell hpg))) ?_
            refine lexQ rfl rfl rfl rfl (fun H hM => (yMove (v := .slice _ _ _) rfl rfl)) ?_
            refine lexQ rfl rfl rfl rfl (fun H hM => (yMove (v := .int _ _) rfl rfl)) ?_
            refine lexQ rfl rfl rfl rfl (fun H hM => (yIdxP1 rfl Try.underlying27 Try.sizeOf3 rfl rfl eps rfl his)) ?_
            refine lexQ rfl rfl rfl rfl (fun H hM => (yLoad rfl Try.underlying3 rfl rfl (hM.ext.cell hps))) ?_
            -- tail
            refine lexNil0 rfl (fun hM => ?_)
            refine seqQ rfl rfl (yNeq rfl rfl rfl) ?_
            refine seqQ rfl rfl (yPickF (v := .bool _) rfl rfl rfl) ?_
            refine seqNil ?_
            refine hF21 _ _ ?_; clear hF21
            -- if t57
            refine wpCond rfl (fun hne => ?_) (fun hne => ?_)
            · skip
              have hne : ¬ got[i] = snt[i] := by simpa using hne
              refine wpSeq fun F23 hF23 => ?_
              refine wpRegion ?_
              refine seqQ rfl rfl (yAssign (v := .int _ _) rfl rfl) ?_
              refine seqQ rfl rfl (yAssign (v := .bool _) rfl rfl) ?_
              refine seqNil ?_
              refine hF23 _ _ ?_; clear hF23
              -- ret
              refine wpRet (fin2 (v := .int _ _) (v' := .bool _) rfl rfl rfl ?_)
              exact ⟨0, by rw [decide_eq_false (hbad fun hp => hne (by have := hp.2 i hig; rwa [gg, gs] at this))], hE3⟩
            · skip
              have hne : got[i] = snt[i] := by simpa using hne
              refine wpSkip ?_
              refine hF20 _ _ ?_; clear hF20
              refine wpRegion ?_
              refine seqQ rfl rfl (yMove (v := .int _ _) rfl rfl) ?_
              refine seqQ rfl rfl (yAdd rfl rfl rfl (by unfold In64; omega)) ?_
              refine seqQ rfl rfl (yAssign (v := .int _ _) rfl rfl) ?_
              refine seqNil ?_
              -- end loop
              exact loopEnd (i + 1) (by repeat (first | (with_reducible exact Agree.refl _ _) | refine Agree.upd ?_ rfl | refine Agree.over ?_ rfl)) (by omega) ⟨rfl, trivial⟩ ⟨hig, his, rfl, fun j hj => (by
                by_cases e : j = i
                · subst e; rw [gg, gs, hne]
                · exact hsame j (by omega))⟩
        · skip
          obtain rfl : i = got.length := by omega
          refine wpExit ?_
          refine hF16 _ _ ?_; clear hF16
          refine wpRegion ?_
          refine seqQ rfl rfl (yMove (v := .int _ _) rfl rfl) ?_
          refine seqQ rfl rfl (yMove (v := .slice _ _ _) rfl rfl) ?_
          refine seqQ rfl rfl (yLen rfl Try.underlying27 rfl) ?_
          refine seqQ rfl rfl (yAddE rfl rfl rfl (by unfold In64; omega) (show (n2 : Int) + (got.length : Int) = ((n2 + got.length : Nat) : Int) by omega)) ?_
          refine seqQ rfl rfl (yAssign (v := .int _ _) rfl rfl) ?_
          refine seqNil ?_
          refine hF14 _ _ ?_; clear hF14
          refine wpRegion ?_
          refine seqQ rfl rfl (yMove (v := .int _ _) rfl rfl) ?_
          refine seqQ rfl rfl (yAdd rfl rfl rfl (by unfold In64; omega)) ?_
          refine seqQ rfl rfl (yAssign (v := .int _ _) rfl rfl) ?_
          refine seqNil ?_
          -- end loop
          exact loopEnd (p + 1, n2 + got.length) (by repeat (first | (with_reducible exact Agree.refl _ _) | refine Agree.upd ?_ rfl | refine Agree.over ?_ rfl)) (by dsimp only; omega) ⟨rfl, rfl, trivial⟩ ⟨hpl, by dsimp only; omega, hE3, fun j hj => (by
            by_cases e : j = p
            · subst e
              rw [eqg, eqs, pre_iff]
              exact ⟨hi2, hsame⟩
            · exact hok2 j (by omega))⟩
      · skip
        obtain rfl : p = hs.length := by dsimp only at hlt2; omega
        refine wpExit ?_
        refine hF10 _ _ ?_; clear hF10
        refine wpRegion ?_
        refine seqQ rfl rfl (yMove (v := .int _ _) rfl rfl) ?_
        refine seqQ rfl rfl (yAdd rfl rfl rfl (by unfold In64; omega)) ?_
        refine seqQ rfl rfl (yAssign (v := .int _ _) rfl rfl) ?_
        refine seqNil ?_
        -- end loop
        exact loopEnd (q + 1, n2) (by repeat (first | (with_reducible exact Agree.refl _ _) | refine Agree.upd ?_ rfl | refine Agree.over ?_ rfl)) (by dsimp only; omega) ⟨rfl, rfl, trivial⟩ ⟨hql, by dsimp only; omega, hEp, fun j hj => (by
          by_cases e : j = q
          · subst e; exact hok2
          · exact hok j (by omega))⟩
    · skip
      obtain rfl : q = hs.length := by dsimp only at hlt; omega
      refine wpExit ?_
      refine hF6 _ _ ?_; clear hF6
      refine wpSeq fun F24 hF24 => ?_
      refine wpRegion ?_
      refine seqQ rfl rfl (yMove (v := .int _ _) rfl rfl) ?_
      refine seqQ rfl rfl (yAssign (v := .int _ _) rfl rfl) ?_
      refine seqQ rfl rfl (yAssign (v := .bool _) rfl rfl) ?_
      refine seqNil ?_
      refine hF24 _ _ ?_; clear hF24
      -- ret
      refine wpRet (fin2 (v := .int _ _) (v' := .bool _) rfl rfl rfl ?_)
      exact ⟨n, by rw [decide_eq_true (show MatchP (evsL hs) from ⟨hP, fun a ha b hb => hok b (by omega) a (by omega)⟩)], hEq⟩
set_option maxRecDepth 100000 in
theorem message_c (l : List EH) (A : Option Addr) (ca : Nat) (peer : Int) (n : Nat) (H : Heap) (h : LogRd H A l) (hl : l.length ≤ 100000) (hn : n ≤ 100000) :
    CallsH Try.prog 83 [.slice A l.length ca, .int .i64 peer, .int .i64 n] H fun v H' => (∃ C cc b, v = .tuple #[.slice C (sentC (l.map EH.ent) peer n).length cc, .bool b] ∧ (b = false → sentC (l.map EH.ent) peer n = []) ∧ Rd eInt H C (sentC (l.map EH.ent) peer n)) ∧ H' = H := by
  have hmap : (sendsE (l.map EH.ent) peer)[n]? = ((sendsOf l peer)[n]?).map EH.ent := by rw [← sends_map, List.getElem?_map]
  refine callsH_of Try.func83 rfl Try.ntmps83 (Nat.le_of_ble_eq_true rfl) ?_
  refine wpSeq fun F1 hF1 => ?_
  refine wpRegion ?_
  refine seqQ rfl rfl (yAssign (v := .slice _ _ _) rfl rfl) ?_
  refine seqQ rfl rfl (yAssign (v := .bool _) rfl rfl) ?_
  refine seqNil ?_
  refine hF1 _ _ ?_; clear hF1
  refine wpSeq fun F2 hF2 => ?_
  refine wpSeq fun F3 hF3 => ?_
  refine wpRegion ?_
  refine seqQ rfl rfl (yAssign (v := .int _ _) rfl rfl) ?_
  refine seqNil ?_
  refine hF3 _ _ ?_; clear hF3
  -- loop
  refine wpBlock ?_
  refine wpLoopS [2, 6, 7, 8, 9, 10, 11, 12, 13, 14, 15, 16, 17, 18, 19, 20, 21, 22, 23, 24, 25, 26, 27, 28, 29, 30, 31, 32, 33, 34, 35, 36, 37, 38, 39] (fun x : Nat × Nat => [(8, .int .i64 x.1), (2, .int .i64 x.2)]) (fun x H' => x.1 ≤ l.length ∧ x.2 ≤ 100000 ∧ H' = H ∧ (sendsOf (l.drop x.1) peer)[x.2]? = (sendsOf l peer)[n]?) (fun x => l.length - x.1) (0, n) ⟨rfl, rfl, trivial⟩ ⟨Nat.zero_le _, hn, rfl, rfl⟩ ?_
  rintro ⟨k, m⟩ J Hk ⟨hk, hm, e, hd⟩
  obtain rfl := e.symm
  clear e
  dsimp only at hk hm hd
  refine wpSeq fun F4 hF4 => ?_
  refine wpSeq fun F5 hF5 => ?_
  refine wpRegion ?_
  refine seqQ rfl rfl (yMove (v := .int _ _) rfl rfl) ?_
  refine seqQ rfl rfl (yMove (v := .slice _ _ _) rfl rfl) ?_
  refine seqQ rfl rfl (yLen rfl Try.underlying23 rfl) ?_
  refine seqQ rfl rfl (yLss rfl rfl rfl) ?_
  refine seqNil ?_
  refine hF5 _ _ ?_; clear hF5
  -- if t12
  refine wpIf rfl (fun hlt => ?_) (fun hlt => ?_)
  · skip
    have hkl : k < l.length := by dsimp only at hlt; omega
    obtain ⟨q, eq, hq⟩ := h.1.at hkl
    have hci := (h.2 _ (List.getElem_mem hkl)).2
    have hyes := drop_yes (peer := peer) hkl
    have hno := drop_no (peer := peer) hkl
    generalize l[k] = x at *
    refine wpSkip ?_
    refine hF4 _ _ ?_; clear hF4
    refine wpSeq fun F6 hF6 => ?_
    refine wpBlock ?_
    refine wpSeq fun F7 hF7 => ?_
    refine wpRegion ?_
    refine seqQ rfl rfl (yMove (v := .slice _ _ _) rfl rfl) ?_
    refine seqQ rfl rfl (yMove (v := .int _ _) rfl rfl) ?_
    refine seqQ rfl rfl (yIdxP rfl Try.underlying23 Try.sizeOf86 rfl rfl eq rfl hkl) ?_
    refine seqQ rfl rfl (yFieldAddr rfl Try.underlying86 rfl Try.sizeOf26 rfl rfl) ?_
    refine seqQ rfl rfl (yFieldAddr rfl Try.underlying26 rfl Try.sizeOf4 rfl rfl) ?_
    refine seqQ rfl rfl (yLoad rfl Try.underlying4 rfl rfl (show cellH _ _ = some (.bool x.ev.send) from hq 1 _ rfl)) ?_
    -- guard t21
    refine seqGB rfl rfl rfl rfl (fun hs => ?_) (fun hs => ?_)
    · skip
      refine seqQ rfl rfl (yMove (v := .slice _ _ _) rfl rfl) ?_
      refine seqQ rfl rfl (yMove (v := .int _ _) rfl rfl) ?_
      refine seqQ rfl rfl (yIdxP rfl Try.underlying23 Try.sizeOf86 rfl rfl eq rfl hkl) ?_
      refine seqQ rfl rfl (yFieldAddr rfl Try.underlying86 rfl Try.sizeOf26 rfl rfl) ?_
      refine seqQ rfl rfl (yFieldAddr rfl Try.underlying26 rfl Try.sizeOf3 rfl rfl) ?_
      refine seqQ rfl rfl (yLoad rfl Try.underlying3 rfl rfl (show cellH _ _ = some (.int .i64 x.ev.peer) from hq 2 _ rfl)) ?_
      refine seqQ rfl rfl (yMove (v := .int _ _) rfl rfl) ?_
      refine seqQ rfl rfl (yEql rfl rfl rfl) ?_
      refine seqQ rfl rfl (yPickT (v := .bool _) rfl rfl rfl) ?_
      refine seqNil ?_
      refine hF7 _ _ ?_; clear hF7
      -- if t30
      refine wpCond rfl (fun hp => ?_) (fun hp => ?_)
      · skip
        have hp : x.ev.peer = peer := by simpa using hp
        rw [hyes ⟨hs, hp⟩] at hd
        refine wpSeq fun F8 hF8 => ?_
        refine wpSeq fun F9 hF9 => ?_
        refine wpRegion ?_
        refine seqQ rfl rfl (yMove (v := .int _ _) rfl rfl) ?_
        refine seqQ rfl rfl (yEql rfl rfl rfl) ?_
        refine seqNil ?_
        refine hF9 _ _ ?_; clear hF9
        -- if t32
        refine wpCond rfl (fun h0 => ?_) (fun h0 => ?_)
        · skip
          have h0 : m = 0 := by simp at h0; omega
          subst h0
          have e : sentC (l.map EH.ent) peer n = x.clk := by
            unfold sentC
            rw [hmap, ← hd]
            rfl
          refine wpSeq fun F10 hF10 => ?_
          refine wpRegion ?_
          refine seqQ rfl rfl (yMove (v := .slice _ _ _) rfl rfl) ?_
          refine seqQ rfl rfl (yMove (v := .int _ _) rfl rfl) ?_
          refine seqQ rfl rfl (yIdxP rfl Try.underlying23 Try.sizeOf86 rfl rfl eq rfl hkl) ?_
          refine seqQ rfl rfl (yFieldAddr rfl Try.underlying86 rfl Try.sizeOf28 rfl rfl) ?_
          refine seqQ rfl rfl (yLoad rfl Try.underlying28 rfl rfl (show cellH _ _ = some (.slice x.CA x.clk.length x.cc) from hq 5 _ rfl)) ?_
          refine seqQ rfl rfl (yAssign (v := .slice _ _ _) rfl rfl) ?_
          refine seqQ rfl rfl (yAssign (v := .bool _) rfl rfl) ?_
          refine seqNil ?_
          refine hF10 _ _ ?_; clear hF10
          -- ret
          refine wpRet (fin2 (v := .slice _ _ _) (v' := .bool _) rfl rfl rfl ?_)
          rw [e]
          exact ⟨⟨x.CA, x.cc, true, rfl, fun h => (by cases h), hci⟩, rfl⟩
        · skip
          have h0 : ¬ m = 0 := by simp at h0; omega
          obtain ⟨m', rfl⟩ : ∃ m', m = m' + 1 := ⟨m - 1, by omega⟩
          rw [List.getElem?_cons_succ] at hd
          refine wpSkip ?_
          refine hF8 _ _ ?_; clear hF8
          refine wpRegion ?_
          refine seqQ rfl rfl (yMove (v := .int _ _) rfl rfl) ?_
          refine seqQ rfl rfl (ySubE rfl rfl rfl (by unfold In64; omega) (show ((m' + 1 : Nat) : Int) - 1 = (m' : Int) by omega)) ?_
          refine seqQ rfl rfl (yAssign (v := .int _ _) rfl rfl) ?_
          refine seqNil ?_
          refine hF6 _ _ ?_; clear hF6
          refine wpRegion ?_
          refine seqQ rfl rfl (yMove (v := .int _ _) rfl rfl) ?_
          refine seqQ rfl rfl (yAdd rfl rfl rfl (by unfold In64; omega)) ?_
          refine seqQ rfl rfl (yAssign (v := .int _ _) rfl rfl) ?_
          refine seqNil ?_
          -- end loop
          exact loopEnd (k + 1, m') (by repeat (first | (with_reducible exact Agree.refl _ _) | refine Agree.upd ?_ rfl | refine Agree.over ?_ rfl)) (by dsimp only; omega) ⟨rfl, rfl, trivial⟩ ⟨hkl, by dsimp only; omega, rfl, hd⟩
      · skip
        have hp : ¬ x.ev.peer = peer := by simpa using hp
        rw [hno (fun h => hp h.2)] at hd
        refine wpSkip ?_
        refine hF6 _ _ ?_; clear hF6
        refine wpRegion ?_
        refine seqQ rfl rfl (yMove (v := .int _ _) rfl rfl) ?_
        refine seqQ rfl rfl (yAdd rfl rfl rfl (by unfold In64; omega)) ?_
        refine seqQ rfl rfl (yAssign (v := .int _ _) rfl rfl) ?_
        refine seqNil ?_
        -- end loop
        exact loopEnd (k + 1, m) (by repeat (first | (with_reducible exact Agree.refl _ _) | refine Agree.upd ?_ rfl | refine Agree.over ?_ rfl)) (by dsimp only; omega) ⟨rfl, rfl, trivial⟩ ⟨hkl, hm, rfl, hd⟩
    · skip
      rw [hno (fun h => by rw [h.1] at hs; cases hs)] at hd
      refine seqU rfl rfl ?_
      refine seqU rfl rfl ?_
      refine seqU rfl rfl ?_
      refine seqU rfl rfl ?_
      refine seqU rfl rfl ?_
      refine seqU rfl rfl ?_
      refine seqU rfl rfl ?_
      refine seqU rfl rfl ?_
      refine seqQ rfl rfl (yPickF (v := .bool _) rfl rfl rfl) ?_
      refine seqNil ?_
      refine hF7 _ _ ?_; clear hF7
      -- if t30
      refine wpF rfl ?_
      refine wpSkip ?_
      refine hF6 _ _ ?_; clear hF6
      refine wpRegion ?_
      refine seqQ rfl rfl (yMove (v := .int _ _) rfl rfl) ?_
      refine seqQ rfl rfl (yAdd rfl rfl rfl (by unfold In64; omega)) ?_
      refine seqQ rfl rfl (yAssign (v := .int _ _) rfl rfl) ?_
      refine seqNil ?_
      -- end loop
      exact loopEnd (k + 1, m) (by repeat (first | (with_reducible exact Agree.refl _ _) | refine Agree.upd ?_ rfl | refine Agree.over ?_ rfl)) (by dsimp only; omega) ⟨rfl, rfl, trivial⟩ ⟨hkl, hm, rfl, hd⟩
  · skip
    obtain rfl : k = l.length := by dsimp only at hlt; omega
    have e : sentC (l.map EH.ent) peer n = [] := by
      unfold sentC
      rw [hmap, ← hd, List.drop_length]
      rfl
    refine wpExit ?_
    refine hF2 _ _ ?_; clear hF2
    refine wpSeq fun F11 hF11 => ?_
    refine wpRegion ?_
    refine seqQ rfl rfl (yAssign (v := .slice _ _ _) rfl rfl) ?_
    refine seqQ rfl rfl (yAssign (v := .bool _) rfl rfl) ?_
    refine seqNil ?_
    refine hF11 _ _ ?_; clear hF11
    -- ret
    refine wpRet (fin2 (v := .slice _ _ _) (v' := .bool _) rfl rfl rfl ?_)
    rw [e]
    exact ⟨⟨none, 0, false, rfl, fun _ => rfl, Rd.nil _ _⟩, rfl⟩
end Go.Proofs.Ytbanngdijmglbaa
