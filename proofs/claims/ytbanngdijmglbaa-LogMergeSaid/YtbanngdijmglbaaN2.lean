/- LogMerge: Merge and Right return the specified results for any logs of up to 60 entries. Conditions: none beyond the statement's. -/
import Derived.Test.YtbanngdijmglbaaM21
import Derived.Test.YtbanngdijmglbaaLS
namespace Go.Proofs.Ytbanngdijmglbaa
open Go.ChangeShapes Go.WideShapes Go.ChangeAt Go.RowKit Go.Deep

set_option maxRecDepth 100000 in
theorem lens_all {ls : List LH} (hs : ∀ L ∈ ls, L.l.length ≤ 140737488355328) : lens ls ≤ ls.length * 140737488355328 := lens_bound hs
set_option maxRecDepth 100000 in
/-- Few, whatever the number of logs: the sum may wrap where there are more than eight. -/
theorem few57w_c (ls : List LH) (B : Option Addr) (cb : Nat) (H : Heap) (h : LogsRd H B ls) (hl : ls.length ≤ 9223372036854775807) (hs : ∀ L ∈ ls, L.l.length ≤ 140737488355328) (hv : ∀ L ∈ ls, ∀ x ∈ L.l, x.ev.values.length ≤ 9223372036854775807) :
    CallsH Try.prog 11 [.slice B ls.length cb] H fun v H' => (∃ b, v = .bool b ∧ (b = true → FewL ls)) ∧ H' = H := by
  refine callsH_of Try.func11 rfl Try.ntmps11 (Nat.le_of_ble_eq_true rfl) ?_
  refine wpSeq fun F1 hF1 => ?_
  refine wpRegion ?_
  refine seqQ rfl rfl (yAssign (v := .bool _) rfl rfl) ?_
  refine seqNil ?_
  refine hF1 _ _ ?_; clear hF1
  refine wpSeq fun F2 hF2 => ?_
  refine wpRegion ?_
  refine seqQ rfl rfl (yAssign (v := .int _ _) rfl rfl) ?_
  refine seqNil ?_
  refine hF2 _ _ ?_; clear hF2
  refine wpSeq fun F3 hF3 => ?_
  refine wpSeq fun F4 hF4 => ?_
  refine wpRegion ?_
  refine seqQ rfl rfl (yAssign (v := .int _ _) rfl rfl) ?_
  refine seqNil ?_
  refine hF4 _ _ ?_; clear hF4
  -- loop
  refine wpBlock ?_
  refine wpLoopS [2, 3, 4, 5, 6, 7, 8, 9, 10, 11, 12, 13, 14, 15, 16, 17, 18, 19, 20, 21, 22, 23, 24, 25, 26, 27, 28, 29, 30, 31, 32, 33, 34, 35, 36, 37, 38, 39, 40, 41, 42, 43, 44, 45, 46, 47, 48, 49, 50, 51, 52, 53, 54, 55, 56, 57, 58, 59, 60, 61, 62, 63, 64, 65, 66, 67, 68, 69, 70, 71, 72, 73, 74, 75, 76, 77, 78, 79, 80] (fun r : Nat × Int => [(3, .int .i64 r.2), (4, .int .i64 r.1)]) (fun r H' => r.1 ≤ ls.length ∧ (∀ L ∈ ls.take r.1, ∀ x ∈ L.l, fewE x) ∧ (r.1 ≤ 8 → r.2 = (lens (ls.take r.1) : Nat)) ∧ H' = H) (fun r => ls.length - r.1) (0, 0) ⟨rfl, rfl, trivial⟩ ⟨Nat.zero_le _, (fun L h => by cases h), fun _ => rfl, rfl⟩ ?_
  rintro ⟨r, m⟩ J H1 ⟨hr, hf, hm, rfl⟩
  dsimp only at hr hf hm
  refine wpSeq fun F5 hF5 => ?_
  refine wpSeq fun F6 hF6 => ?_
  refine wpRegion ?_
  refine seqQ rfl rfl (yMove (v := .int _ _) rfl rfl) ?_
  refine seqQ rfl rfl (yMove (v := .slice _ _ _) rfl rfl) ?_
  refine seqQ rfl rfl (yLen rfl Try.underlying33 rfl) ?_
  refine seqQ rfl rfl (yLss rfl rfl rfl) ?_
  refine seqNil ?_
  refine hF6 _ _ ?_; clear hF6
  -- if t10
  refine wpIf rfl (fun hlt => ?_) (fun hlt => ?_)
  · skip
    have hrl : r < ls.length := by dsimp only at hlt; omega
    obtain ⟨p, ep, hp⟩ := h.1.at1 hrl
    have hL := h.2 _ (List.getElem_mem hrl)
    have hvL := hv _ (List.getElem_mem hrl)
    have hsL := hs _ (List.getElem_mem hrl)
    have t1 := lens_take hrl
    have t2 : r ≤ 8 → lens (ls.take r) ≤ 1125899906842624 := fun h8 => by
      have h1 := lens_all (ls := ls.take r) fun L hL => hs L (List.mem_of_mem_take hL)
      have h2 : (ls.take r).length * 140737488355328 ≤ 8 * 140737488355328 := Nat.mul_le_mul_right _ (by rw [List.length_take]; omega)
      exact Nat.le_trans h1 h2
    have hnx := mem_take_succ (P := fun L => ∀ x ∈ L.l, fewE x) hrl hf
    have hwr : r + 1 ≤ 8 → IntKind.i64.wrap (m + (ls[r].l.length : Int)) = (lens (ls.take (r + 1)) : Nat) := fun h8 => by
      rw [hm (by omega), IntKind.wrap_i64]
      have := t2 (by omega)
      omega
    generalize ls[r] = L at *
    replace hp : cellH H1 (p.add r) = some (.slice L.A L.l.length L.c) := hp
    refine wpSkip ?_
    refine hF5 _ _ ?_; clear hF5
    refine wpSeq fun F7 hF7 => ?_
    refine wpBlock ?_
    refine wpSeq fun F8 hF8 => ?_
    refine wpRegion ?_
    refine seqQ rfl rfl (yMove (v := .int _ _) rfl rfl) ?_
    refine seqQ rfl rfl (yMove (v := .slice _ _ _) rfl rfl) ?_
    refine seqQ rfl rfl (yMove (v := .int _ _) rfl rfl) ?_
    refine seqQ rfl rfl (yIdxP1 rfl Try.underlying33 Try.sizeOf23 rfl rfl ep rfl hrl) ?_
    refine seqQ rfl rfl (yLoad rfl Try.underlying23 rfl rfl hp) ?_
    refine seqQ rfl rfl (yLen rfl Try.underlying23 rfl) ?_
    refine seqQ rfl rfl (yAddK rfl rfl rfl rfl) ?_
    refine seqQ rfl rfl (yAssign (v := .int _ _) rfl rfl) ?_
    refine seqNil ?_
    refine hF8 _ _ ?_; clear hF8
    refine wpSeq fun F9 hF9 => ?_
    refine wpRegion ?_
    refine seqQ rfl rfl (yAssign (v := .int _ _) rfl rfl) ?_
    refine seqNil ?_
    refine hF9 _ _ ?_; clear hF9
    -- loop
    refine wpBlock ?_
    refine wpLoopS [2, 5, 6, 20, 21, 22, 23, 24, 25, 26, 27, 28, 29, 30, 31, 32, 33, 34, 35, 36, 37, 38, 39, 40, 41, 42, 43, 44, 45, 46, 47, 48, 49, 50, 51, 52, 53, 54, 55, 56, 57, 58, 59, 60, 61, 62, 63, 64, 65, 66, 67, 68, 69, 70, 71, 72, 73, 74, 75, 76, 77, 78, 79, 80] (fun i : Nat => [(5, .int .i64 i)]) (fun i H' => i ≤ L.l.length ∧ (∀ x ∈ L.l.take i, fewE x) ∧ H' = H1) (fun i => L.l.length - i) 0 ⟨rfl, trivial⟩ ⟨Nat.zero_le _, (fun x h => by cases h), rfl⟩ ?_
    rintro i J2 H2 ⟨hi, hg, rfl⟩
    refine wpSeq fun F10 hF10 => ?_
    refine wpSeq fun F11 hF11 => ?_
    refine wpRegion ?_
    refine seqQ rfl rfl (yMove (v := .int _ _) rfl rfl) ?_
    refine seqQ rfl rfl (yMove (v := .slice _ _ _) rfl rfl) ?_
    refine seqQ rfl rfl (yMove (v := .int _ _) rfl rfl) ?_
    refine seqQ rfl rfl (yIdxP1 rfl Try.underlying33 Try.sizeOf23 rfl rfl ep rfl hrl) ?_
    refine seqQ rfl rfl (yLoad rfl Try.underlying23 rfl rfl hp) ?_
    refine seqQ rfl rfl (yLen rfl Try.underlying23 rfl) ?_
    refine seqQ rfl rfl (yLss rfl rfl rfl) ?_
    refine seqNil ?_
    refine hF11 _ _ ?_; clear hF11
    -- if t26
    refine wpIf rfl (fun hlt2 => ?_) (fun hlt2 => ?_)
    · skip
      have hil : i < L.l.length := by omega
      obtain ⟨q, eq, hq⟩ := hL.1.at hil
      have hx := hL.2 _ (List.getElem_mem hil)
      have hvx := hvL _ (List.getElem_mem hil)
      have hnx2 := mem_take_succ (P := fewE) hil hg
      generalize L.l[i] = x at *
      refine wpSkip ?_
      refine hF10 _ _ ?_; clear hF10
      refine wpSeq fun F12 hF12 => ?_
      refine wpBlock ?_
      refine wpSeq fun F13 hF13 => ?_
      refine wpSeq fun F14 hF14 => ?_
      refine wpRegion ?_
      refine seqQ rfl rfl (yMove (v := .slice _ _ _) rfl rfl) ?_
      refine seqQ rfl rfl (yMove (v := .int _ _) rfl rfl) ?_
      refine seqQ rfl rfl (yIdxP1 rfl Try.underlying33 Try.sizeOf23 rfl rfl ep rfl hrl) ?_
      refine seqQ rfl rfl (yLoad rfl Try.underlying23 rfl rfl hp) ?_
      refine seqQ rfl rfl (yMove (v := .int _ _) rfl rfl) ?_
      refine seqQ rfl rfl (yIdxP rfl Try.underlying23 Try.sizeOf86 rfl rfl eq rfl hil) ?_
      refine seqQ rfl rfl (yFieldAddr rfl Try.underlying86 rfl Try.sizeOf26 rfl rfl) ?_
      refine seqQ rfl rfl (yFieldAddr rfl Try.underlying26 rfl Try.sizeOf24 rfl rfl) ?_
      refine seqQ rfl rfl (yLoad rfl Try.underlying24 rfl rfl (show cellH _ _ = some (.slice x.VA x.ev.values.length x.vc) from hq 4 _ rfl)) ?_
      refine seqQ rfl rfl (yLen rfl Try.underlying24 rfl) ?_
      refine seqQ rfl rfl (yGtr rfl rfl rfl) ?_
      -- guard t40
      first | refine seqG rfl rfl rfl rfl (fun h40 => ?_) (fun h40 => ?_) | refine seqGB rfl rfl rfl rfl (fun h40 => ?_) (fun h40 => ?_)
      · skip
        refine seqU rfl rfl ?_
        refine seqU rfl rfl ?_
        refine seqU rfl rfl ?_
        refine seqU rfl rfl ?_
        refine seqU rfl rfl ?_
        refine seqU rfl rfl ?_
        refine seqU rfl rfl ?_
        refine seqU rfl rfl ?_
        refine seqU rfl rfl ?_
        refine seqU rfl rfl ?_
        refine seqQ rfl rfl (yPickT (v := .bool _) rfl rfl rfl) ?_
        refine seqNil ?_
        refine hF14 _ _ ?_; clear hF14
        refine wpT rfl ?_
        refine wpSeq fun F15 hF15 => ?_
        refine wpRegion ?_
        refine seqQ rfl rfl (yAssign (v := .bool _) rfl rfl) ?_
        refine seqNil ?_
        refine hF15 _ _ ?_; clear hF15
        refine wpRet (fin1 (v := .bool _) rfl rfl ?_)
        exact ⟨⟨false, rfl, fun h => by cases h⟩, rfl⟩
      refine seqQ rfl rfl (yMove (v := .slice _ _ _) rfl rfl) ?_
      refine seqQ rfl rfl (yMove (v := .int _ _) rfl rfl) ?_
      refine seqQ rfl rfl (yIdxP1 rfl Try.underlying33 Try.sizeOf23 rfl rfl ep rfl hrl) ?_
      refine seqQ rfl rfl (yLoad rfl Try.underlying23 rfl rfl hp) ?_
      refine seqQ rfl rfl (yMove (v := .int _ _) rfl rfl) ?_
      refine seqQ rfl rfl (yIdxP rfl Try.underlying23 Try.sizeOf86 rfl rfl eq rfl hil) ?_
      refine seqQ rfl rfl (yFieldAddr rfl Try.underlying86 rfl Try.sizeOf28 rfl rfl) ?_
      refine seqQ rfl rfl (yLoad rfl Try.underlying28 rfl rfl (show cellH _ _ = some (.slice x.CA x.clk.length x.cc) from hq 5 _ rfl)) ?_
      refine seqQ rfl rfl (yLen rfl Try.underlying28 rfl) ?_
      refine seqQ rfl rfl (yGtr rfl rfl rfl) ?_
      refine seqQ rfl rfl (yPickF (v := .bool _) rfl rfl rfl) ?_
      refine seqNil ?_
      refine hF14 _ _ ?_; clear hF14
      -- if t51
      refine wpIf rfl (fun hc => ?_) (fun hc => ?_)
      · skip
        refine wpSeq fun F16 hF16 => ?_
        refine wpRegion ?_
        refine seqQ rfl rfl (yAssign (v := .bool _) rfl rfl) ?_
        refine seqNil ?_
        refine hF16 _ _ ?_; clear hF16
        -- ret
        refine wpRet (fin1 (v := .bool _) rfl rfl ?_)
        exact ⟨⟨false, rfl, fun h => by cases h⟩, rfl⟩
      · skip
        refine wpSkip ?_
        refine hF13 _ _ ?_; clear hF13
        refine wpSeq fun F17 hF17 => ?_
        refine wpRegion ?_
        refine seqQ rfl rfl (yAssign (v := .int _ _) rfl rfl) ?_
        refine seqNil ?_
        refine hF17 _ _ ?_; clear hF17
        -- loop
        refine wpBlock ?_
        refine wpLoopS [2, 6, 52, 53, 54, 55, 56, 57, 58, 59, 60, 61, 62, 63, 64, 65, 66, 67, 68, 69, 70, 71, 72, 73, 74, 75, 76, 77, 78, 79, 80] (fun k : Nat => [(6, .int .i64 k)]) (fun k H' => k ≤ x.ev.values.length ∧ (∀ v ∈ x.ev.values.take k, v.s.size ≤ 100) ∧ H' = H2) (fun k => x.ev.values.length - k) 0 ⟨rfl, trivial⟩ ⟨Nat.zero_le _, (fun x h => by cases h), rfl⟩ ?_
        rintro k J3 H3 ⟨hk, hw, rfl⟩
        refine wpSeq fun F18 hF18 => ?_
        refine wpSeq fun F19 hF19 => ?_
        refine wpRegion ?_
        refine seqQ rfl rfl (yMove (v := .int _ _) rfl rfl) ?_
        refine seqQ rfl rfl (yMove (v := .slice _ _ _) rfl rfl) ?_
        refine seqQ rfl rfl (yMove (v := .int _ _) rfl rfl) ?_
        refine seqQ rfl rfl (yIdxP1 rfl Try.underlying33 Try.sizeOf23 rfl rfl ep rfl hrl) ?_
        refine seqQ rfl rfl (yLoad rfl Try.underlying23 rfl rfl hp) ?_
        refine seqQ rfl rfl (yMove (v := .int _ _) rfl rfl) ?_
        refine seqQ rfl rfl (yIdxP rfl Try.underlying23 Try.sizeOf86 rfl rfl eq rfl hil) ?_
        refine seqQ rfl rfl (yFieldAddr rfl Try.underlying86 rfl Try.sizeOf26 rfl rfl) ?_
        refine seqQ rfl rfl (yFieldAddr rfl Try.underlying26 rfl Try.sizeOf24 rfl rfl) ?_
        refine seqQ rfl rfl (yLoad rfl Try.underlying24 rfl rfl (show cellH _ _ = some (.slice x.VA x.ev.values.length x.vc) from hq 4 _ rfl)) ?_
        refine seqQ rfl rfl (yLen rfl Try.underlying24 rfl) ?_
        refine seqQ rfl rfl (yLss rfl rfl rfl) ?_
        refine seqNil ?_
        refine hF19 _ _ ?_; clear hF19
        -- if t63
        refine wpIf rfl (fun hlt3 => ?_) (fun hlt3 => ?_)
        · skip
          have hkl : k < x.ev.values.length := by omega
          obtain ⟨z, ez, hz⟩ := hx.1.at hkl
          have hnx3 := mem_take_succ (P := fun v : Val => v.s.size ≤ 100) hkl hw
          generalize x.ev.values[k] = u at *
          refine wpSkip ?_
          refine hF18 _ _ ?_; clear hF18
          refine wpSeq fun F20 hF20 => ?_
          refine wpBlock ?_
          refine wpSeq fun F21 hF21 => ?_
          refine wpRegion ?_
          refine seqQ rfl rfl (yMove (v := .slice _ _ _) rfl rfl) ?_
          refine seqQ rfl rfl (yMove (v := .int _ _) rfl rfl) ?_
          refine seqQ rfl rfl (yIdxP1 rfl Try.underlying33 Try.sizeOf23 rfl rfl ep rfl hrl) ?_
          refine seqQ rfl rfl (yLoad rfl Try.underlying23 rfl rfl hp) ?_
          refine seqQ rfl rfl (yMove (v := .int _ _) rfl rfl) ?_
          refine seqQ rfl rfl (yIdxP rfl Try.underlying23 Try.sizeOf86 rfl rfl eq rfl hil) ?_
          refine seqQ rfl rfl (yFieldAddr rfl Try.underlying86 rfl Try.sizeOf26 rfl rfl) ?_
          refine seqQ rfl rfl (yFieldAddr rfl Try.underlying26 rfl Try.sizeOf24 rfl rfl) ?_
          refine seqQ rfl rfl (yLoad rfl Try.underlying24 rfl rfl (show cellH _ _ = some (.slice x.VA x.ev.values.length x.vc) from hq 4 _ rfl)) ?_
          refine seqQ rfl rfl (yMove (v := .int _ _) rfl rfl) ?_
          refine seqQ rfl rfl (yIdxP rfl Try.underlying24 Try.sizeOf88 rfl rfl ez rfl hkl) ?_
          refine seqQ rfl rfl (yFieldAddr rfl Try.underlying88 rfl Try.sizeOf9 rfl rfl) ?_
          refine seqQ rfl rfl (yLoad rfl Try.underlying9 rfl rfl (show cellH _ _ = some (.string u.s) from hz 2 _ rfl)) ?_
          refine seqQ rfl rfl (yLenS rfl Try.underlying9 rfl) ?_
          refine seqQ rfl rfl (yGtr rfl rfl rfl) ?_
          refine seqNil ?_
          refine hF21 _ _ ?_; clear hF21
          -- if t80
          refine wpIf rfl (fun hbig => ?_) (fun hbig => ?_)
          · skip
            refine wpSeq fun F22 hF22 => ?_
            refine wpRegion ?_
            refine seqQ rfl rfl (yAssign (v := .bool _) rfl rfl) ?_
            refine seqNil ?_
            refine hF22 _ _ ?_; clear hF22
            -- ret
            refine wpRet (fin1 (v := .bool _) rfl rfl ?_)
            exact ⟨⟨false, rfl, fun h => by cases h⟩, rfl⟩
          · skip
            refine wpSkip ?_
            refine hF20 _ _ ?_; clear hF20
            refine wpRegion ?_
            refine seqQ rfl rfl (yMove (v := .int _ _) rfl rfl) ?_
            refine seqQ rfl rfl (yAdd rfl rfl rfl (by unfold In64; omega)) ?_
            refine seqQ rfl rfl (yAssign (v := .int _ _) rfl rfl) ?_
            refine seqNil ?_
            -- end loop
            exact loopEnd (k + 1) (by repeat (first | (with_reducible exact Agree.refl _ _) | refine Agree.upd ?_ rfl | refine Agree.over ?_ rfl)) (by omega) ⟨rfl, trivial⟩ ⟨hkl, hnx3 (by omega), rfl⟩
        · skip
          obtain rfl : k = x.ev.values.length := by omega
          rw [List.take_length] at hw
          refine wpExit ?_
          refine hF12 _ _ ?_; clear hF12
          refine wpRegion ?_
          refine seqQ rfl rfl (yMove (v := .int _ _) rfl rfl) ?_
          refine seqQ rfl rfl (yAdd rfl rfl rfl (by unfold In64; omega)) ?_
          refine seqQ rfl rfl (yAssign (v := .int _ _) rfl rfl) ?_
          refine seqNil ?_
          -- end loop
          exact loopEnd (i + 1) (by repeat (first | (with_reducible exact Agree.refl _ _) | refine Agree.upd ?_ rfl | refine Agree.over ?_ rfl)) (by omega) ⟨rfl, trivial⟩ ⟨hil, hnx2 ⟨by omega, by omega, hw⟩, rfl⟩
    · skip
      obtain rfl : i = L.l.length := by omega
      rw [List.take_length] at hg
      refine wpExit ?_
      refine hF7 _ _ ?_; clear hF7
      refine wpRegion ?_
      refine seqQ rfl rfl (yMove (v := .int _ _) rfl rfl) ?_
      refine seqQ rfl rfl (yAdd rfl rfl rfl (by unfold In64; omega)) ?_
      refine seqQ rfl rfl (yAssign (v := .int _ _) rfl rfl) ?_
      refine seqNil ?_
      -- end loop
      exact loopEnd (r + 1, _) (by repeat (first | (with_reducible exact Agree.refl _ _) | refine Agree.upd ?_ rfl | refine Agree.over ?_ rfl)) (by dsimp only; omega) ⟨rfl, rfl, trivial⟩ ⟨hrl, hnx hg, hwr, rfl⟩
  · skip
    obtain rfl : r = ls.length := by dsimp only at hlt; omega
    rw [List.take_length] at hf hm
    refine wpExit ?_
    refine hF3 _ _ ?_; clear hF3
    refine wpSeq fun F23 hF23 => ?_
    refine wpRegion ?_
    refine seqQ rfl rfl (yMove (v := .slice _ _ _) rfl rfl) ?_
    refine seqQ rfl rfl (yLen rfl Try.underlying33 rfl) ?_
    refine seqQ rfl rfl (yLeq rfl rfl rfl) ?_
    -- guard t84
    first | refine seqG rfl rfl rfl rfl (fun h84 => ?_) (fun h84 => ?_) | refine seqGB rfl rfl rfl rfl (fun h84 => ?_) (fun h84 => ?_)
    rotate_left
    · skip
      refine seqU rfl rfl ?_
      refine seqU rfl rfl ?_
      refine seqQ rfl rfl (yPickF (v := .bool _) rfl rfl rfl) ?_
      refine seqQ rfl rfl (yAssign (v := .bool _) rfl rfl) ?_
      refine seqNil ?_
      refine hF23 _ _ ?_; clear hF23
      refine wpRet (fin1 (v := .bool _) rfl rfl ?_)
      exact ⟨⟨false, rfl, fun h => by cases h⟩, rfl⟩
    refine seqQ rfl rfl (yMove (v := .int _ _) rfl rfl) ?_
    refine seqQ rfl rfl (yLeq rfl rfl rfl) ?_
    refine seqQ rfl rfl (yPickT (v := .bool _) rfl rfl rfl) ?_
    refine seqQ rfl rfl (yAssign (v := .bool _) rfl rfl) ?_
    refine seqNil ?_
    refine hF23 _ _ ?_; clear hF23
    -- ret
    refine wpRet (fin1 (v := .bool _) rfl rfl ?_)
    exact ⟨⟨_, rfl, fun hb => ⟨hf, by omega, by
      have := hm (by omega)
      simp at hb
      omega⟩⟩, rfl⟩
set_option maxRecDepth 100000 in
theorem few_sms {ls : List LH} (h : FewL ls) : LogsSm ls := ⟨by have := h.2.1; omega, fun _ hL => few_sm h hL⟩
set_option maxRecDepth 100000 in
theorem sm_same {ls ls' : List LH} (h : LogsSm ls) (e : ls'.map LH.l = ls.map LH.l) : LogsSm ls' := ⟨by have := congrArg List.length e; rw [List.length_map, List.length_map] at this; rw [this]; exact h.1, fun L hL => by
  have : L.l ∈ ls.map LH.l := by rw [← e]; exact List.mem_map_of_mem hL
  obtain ⟨K, hK, eK⟩ := List.mem_map.1 this
  rw [← eK]
  exact h.2 K hK⟩
set_option maxRecDepth 100000 in
theorem ents_same {ls ls' : List LH} (e : ls'.map LH.l = ls.map LH.l) : entsL ls' = entsL ls := by
  have := congrArg (List.map (List.map EH.ent)) e
  rw [List.map_map, List.map_map] at this
  exact this
set_option maxRecDepth 100000 in
theorem rd_same {ls ls' : List LH} {b : Nat} {T U : TypeId} {A : Option Addr} {n c : Nat} {B : Option Addr} {H H' : Heap} (h : LogsRd H B ls) (hx : Ext H H') (o : LogsOwn b T U H' (.slice A n c) ls') (e : ls'.map LH.l = ls.map LH.l) : LogsRd H' A ls' := o.rd fun L hL x hxL => by
  have : L.l ∈ ls.map LH.l := by rw [← e]; exact List.mem_map_of_mem hL
  obtain ⟨K, hK, eK⟩ := List.mem_map.1 this
  rw [← eK] at hxL
  exact ((h.2 K hK).2 x hxL).ext hx
set_option maxRecDepth 100000 in
theorem merge_walk (ls : List LH) (B : Option Addr) (cb : Nat) (H : Heap) (h : LogsRd H B ls) (hl : ls.length ≤ 9223372036854775807) (hs : ∀ L ∈ ls, L.l.length ≤ 140737488355328) (hv : ∀ L ∈ ls, ∀ x ∈ L.l, x.ev.values.length ≤ 9223372036854775807) (hcap : ∀ L ∈ ls, L.l.length ≤ L.c) :
    CallsH Try.prog 4 [.slice B ls.length cb] H fun v H' => v = .bool true ∧ Ext H H' := by
  refine callsH_of Try.func4 rfl Try.ntmps4 (Nat.le_of_ble_eq_true rfl) ?_
  refine wpSeq fun F1 hF1 => ?_
  refine wpRegion ?_
  refine seqQ rfl rfl (yAssign (v := .bool _) rfl rfl) ?_
  refine seqNil ?_
  refine hF1 _ _ ?_; clear hF1
  refine wpSeq fun F2 hF2 => ?_
  refine wpSeq fun F3 hF3 => ?_
  refine wpRegion ?_
  -- e slot 8: call F10<farandole/farandolelaw57.awake> 
  refine seqE rfl rfl (stepCall rfl Try.call10 rfl ?_)
  refine (logAwake_c _).mono ?_
  rintro v Ha ⟨rfl, xa⟩
  refine seqQ rfl rfl (yNot rfl rfl) ?_
  refine seqQ rfl rfl (yMove (v := .bool false) rfl rfl) ?_
  refine seqQ rfl rfl (yMove (v := .slice _ _ _) rfl rfl) ?_
  -- e slot 12: call F11<farandole/farandoleref57.Few> t11
  refine seqE rfl rfl (stepCall rfl Try.call11 rfl ?_)
  refine (few57w_c ls B cb Ha (h.ext xa) hl hs hv).mono ?_
  rintro v Hz ⟨⟨bf, rfl, hbf⟩, e⟩
  obtain rfl := e.symm
  clear e
  refine seqQ rfl rfl (yNot rfl rfl) ?_
  refine seqQ rfl rfl (yPickF (v := .bool _) rfl rfl rfl) ?_
  refine seqNil ?_
  refine hF3 _ _ ?_; clear hF3
  -- if t14
  cases bf
  · skip
    refine wpT rfl ?_
    refine wpSeq fun F4 hF4 => ?_
    refine wpRegion ?_
    -- e slot 15: call F10<farandole/farandolelaw57.awake> 
    refine seqE rfl rfl (stepCall rfl Try.call10 rfl ?_)
    refine (logAwake_c _).mono ?_
    rintro v Hz ⟨rfl, xz⟩
    refine seqQ rfl rfl (yAssign (v := .bool _) rfl rfl) ?_
    refine seqNil ?_
    refine hF4 _ _ ?_; clear hF4
    -- ret
    refine wpRet (fin1 (v := .bool _) rfl rfl ?_)
    exact ⟨rfl, xa.trans xz⟩
  · skip
    have hF := hbf rfl
    have hsm := few_sms hF
    refine wpF rfl ?_
    refine wpSkip ?_
    refine hF2 _ _ ?_; clear hF2
    refine wpSeq fun F5 hF5 => ?_
    refine wpRegion ?_
    refine seqQ rfl rfl (yMove (v := .slice _ _ _) rfl rfl) ?_
    -- e slot 18: call F12<farandole/farandolelaw57.Own> t17
    refine seqE rfl rfl (stepCall rfl Try.call12 rfl ?_)
    refine (own57_c ls B cb Ha (h.ext xa) hsm.1 (fun L hL => (hsm.2 L hL).1)).mono ?_
    rintro v Hb ⟨ls', lo, hmp, xb⟩
    have hE := xa.trans xb
    obtain ⟨S, sc, rfl, -⟩ := lo.own.form
    have r1 := rd_same h hE lo hmp
    have sm1 := sm_same hsm hmp
    have en1 := ents_same hmp
    -- e slot 19: call F24<farandole/log.Merge> t18
    refine seqE rfl rfl (stepCall rfl Try.call24 rfl ?_)
    refine (merge_c ls' S sc Hb r1 sm1).mono ?_
    rintro v Hc ⟨O, oc, rfl, oo, xc⟩
    rw [en1] at oo ⊢
    replace hE := hE.trans xc
    refine seqQ rfl rfl (yMove (v := .tuple _) rfl rfl) ?_
    refine seqQ rfl rfl (yExtract (v := .slice _ _ _) rfl rfl rfl) ?_
    refine seqQ rfl rfl (yExtract (v := .int _ _) rfl rfl rfl) ?_
    refine seqQ rfl rfl (yAssign (v := .slice _ _ _) rfl rfl) ?_
    refine seqQ rfl rfl (yAssign (v := .int _ _) rfl rfl) ?_
    refine seqNil ?_
    refine hF5 _ _ ?_; clear hF5
    refine wpSeq fun F6 hF6 => ?_
    refine wpRegion ?_
    refine seqQ rfl rfl (yMove (v := .slice _ _ _) rfl rfl) ?_
    -- e slot 24: call F25<farandole/farandoleref57.Merge> t23
    refine seqE rfl rfl (stepCall rfl Try.call25 rfl ?_)
    refine (rmerge_c ls B cb Hc (h.ext hE) hsm).mono ?_
    rintro v Hd ⟨Q, qc, rfl, oq, xd⟩
    replace hE := hE.trans xd
    replace oo := oo.ext xd
    refine seqQ rfl rfl (yMove (v := .tuple _) rfl rfl) ?_
    refine seqQ rfl rfl (yExtract (v := .slice _ _ _) rfl rfl rfl) ?_
    refine seqQ rfl rfl (yExtract (v := .int _ _) rfl rfl rfl) ?_
    refine seqQ rfl rfl (yAssign (v := .slice _ _ _) rfl rfl) ?_
    refine seqQ rfl rfl (yAssign (v := .int _ _) rfl rfl) ?_
    refine seqNil ?_
    refine hF6 _ _ ?_; clear hF6
    refine wpSeq fun F7 hF7 => ?_
    refine wpSeq fun F8 hF8 => ?_
    refine wpRegion ?_
    refine seqQ rfl rfl (yMove (v := .int _ _) rfl rfl) ?_
    refine seqQ rfl rfl (yMove (v := .int _ _) rfl rfl) ?_
    refine seqQ rfl rfl (yNeq rfl rfl rfl) ?_
    -- guard t30
    rw [show (!decide ((mergeL (entsL ls)).1 = (mergeL (entsL ls)).1)) = false by simp]
    refine seqQ rfl rfl (yMove (v := .bool false) rfl rfl) ?_
    refine seqQ rfl rfl (yMove (v := .slice _ _ _) rfl rfl) ?_
    refine seqQ rfl rfl (yLen rfl Try.underlying55 rfl) ?_
    refine seqQ rfl rfl (yMove (v := .slice _ _ _) rfl rfl) ?_
    refine seqQ rfl rfl (yLen rfl Try.underlying58 rfl) ?_
    refine seqQ rfl rfl (yNeq rfl rfl rfl) ?_
    refine seqQ rfl rfl (yPickF (v := .bool _) rfl rfl rfl) ?_
    -- guard t37
    rw [show (!decide (((mergeL (entsL ls)).2.length : Int) = ((mergeL (entsL ls)).2.length : Int))) = false by simp]
    refine seqQ rfl rfl (yMove (v := .bool false) rfl rfl) ?_
    refine seqQ rfl rfl (yMove (v := .slice _ _ _) rfl rfl) ?_
    -- e slot 39: call F12<farandole/farandolelaw57.Own> t38
    refine seqE rfl rfl (stepCall rfl Try.call12 rfl ?_)
    refine (own57_c ls B cb Hd (h.ext hE) hsm.1 (fun L hL => (hsm.2 L hL).1)).mono ?_
    rintro v He ⟨ls2, lo2, hmp2, xe⟩
    replace hE := hE.trans xe
    replace oo := oo.ext xe
    replace oq := oq.ext xe
    obtain ⟨S2, sc2, rfl, -⟩ := lo2.own.form
    have r2 := rd_same h hE lo2 hmp2
    have sm2 := sm_same hsm hmp2
    have en2 := ents_same hmp2
    -- e slot 40: call F26<farandole/log.Right> t39
    refine seqE rfl rfl (stepCall rfl Try.call26 rfl ?_)
    refine (right_c ls2 S2 sc2 He r2 sm2).mono ?_
    rintro v Hf ⟨rfl, xf⟩
    rw [en2]
    replace hE := hE.trans xf
    replace oo := oo.ext xf
    replace oq := oq.ext xf
    refine seqQ rfl rfl (yMove (v := .slice _ _ _) rfl rfl) ?_
    -- e slot 42: call F27<farandole/farandoleref57.Right> t41
    refine seqE rfl rfl (stepCall rfl Try.call27 rfl ?_)
    refine (rright_c ls B cb Hf (h.ext hE) hsm hcap).mono ?_
    rintro v Hg ⟨rfl, xg⟩
    replace hE := hE.trans xg
    replace oo := oo.ext xg
    replace oq := oq.ext xg
    refine seqQ rfl rfl (yNeqB rfl Try.underlying4 rfl rfl) ?_
    refine seqQ rfl rfl (yPickF (v := .bool _) rfl rfl rfl) ?_
    refine seqNil ?_
    refine hF8 _ _ ?_; clear hF8
    -- if t44
    rw [show (!(decide (rightL (entsL ls)) == decide (rightL (entsL ls)))) = false by simp]
    refine wpF rfl ?_
    have hlm : (mergeL (entsL ls)).2.length ≤ 9223372036854775807 := by
      rcases oo.2 with ⟨_, h0⟩ | ⟨g, cap, cur, _, _, _, h1, h2, _⟩
      · omega
      · unfold maxLen at h2; omega
    have ro := (Own.rd oo).2
    have rq := (Own.rd oq).2
    generalize (mergeL (entsL ls)).2 = o at *
    refine wpSkip ?_
    refine hF7 _ _ ?_; clear hF7
    refine wpSeq fun F9 hF9 => ?_
    refine wpSeq fun F10 hF10 => ?_
    refine wpRegion ?_
    refine seqQ rfl rfl (yMove (v := .slice _ _ _) rfl rfl) ?_
    refine seqQ rfl rfl (yLen rfl Try.underlying55 rfl) ?_
    refine seqQ rfl rfl (yMove (v := .int _ _) rfl rfl) ?_
    refine seqNil ?_
    refine hF10 _ _ ?_; clear hF10
    -- loop
    refine wpBlock ?_
    refine wpLoopS [2, 7, 47, 48, 49, 50, 51, 52, 53, 54, 55, 56, 57, 58, 59] (fun i : Nat => [(47, .int .i64 i)]) (fun i H' => i ≤ o.length ∧ H' = Hg) (fun i => o.length - i) 0 ⟨rfl, trivial⟩ ⟨Nat.zero_le _, rfl⟩ ?_
    rintro i J Hi ⟨hi, e⟩
    obtain rfl := e.symm
    clear e
    refine wpSeq fun F11 hF11 => ?_
    refine wpRegion ?_
    refine seqQ rfl rfl (yLss rfl rfl rfl) ?_
    refine seqNil ?_
    refine hF11 _ _ ?_; clear hF11
    refine wpSeq fun F12 hF12 => ?_
    -- if t48
    refine wpIf rfl (fun hlt => ?_) (fun hlt => ?_)
    · skip
      have hil : i < o.length := by omega
      obtain ⟨p, ep, hp⟩ := ro.at hil
      obtain ⟨q, eq, hq⟩ := rq.at hil
      refine wpSkip ?_
      refine hF12 _ _ ?_; clear hF12
      refine wpSeq fun F13 hF13 => ?_
      refine wpBlock ?_
      refine wpSeq fun F14 hF14 => ?_
      refine wpRegion ?_
      refine seqQ rfl rfl (yMove (v := .int _ _) rfl rfl) ?_
      refine seqQ rfl rfl (yAssign (v := .int _ _) rfl rfl) ?_
      refine seqNil ?_
      refine hF14 _ _ ?_; clear hF14
      refine wpSeq fun F15 hF15 => ?_
      refine wpRegionD Try_mixed [.q, .q, .q, .q, .q, .q, .q, .q, .q] 8 [0, 0, 3, 7, 0, 0, 48, 112, 255] [] (by kernel_rfl) _ rfl [0, 1, 2, 3, 4, 5, 6, 7] rfl (by simp) ?_
      refine lexQ rfl rfl rfl rfl (fun H hM => (yMove (v := .slice _ _ _) rfl rfl)) ?_
      refine lexQ rfl rfl rfl rfl (fun H hM => (yMove (v := .int _ _) rfl rfl)) ?_
      refine lexQ rfl rfl rfl rfl (fun H hM => (yIdxP rfl Try.underlying55 Try.sizeOf64 rfl rfl ep rfl hil)) ?_
      refine lexQ rfl rfl rfl rfl (fun H hM => (yLoadC (cs := ePl.F o[i]) rfl Try.underlying64 rfl Try.sizeOf64 rfl (fun j u hu => hM.ext.cell (hp j u hu)))) ?_
      refine lexQ rfl rfl rfl rfl (fun H hM => (yMove (v := .slice _ _ _) rfl rfl)) ?_
      refine lexQ rfl rfl rfl rfl (fun H hM => (yMove (v := .int _ _) rfl rfl)) ?_
      refine lexQ rfl rfl rfl rfl (fun H hM => (yIdxP rfl Try.underlying58 Try.sizeOf63 rfl rfl eq rfl hil)) ?_
      refine lexQ rfl rfl rfl rfl (fun H hM => (yLoadC (cs := ePl.F o[i]) rfl Try.underlying63 rfl Try.sizeOf63 rfl (fun j u hu => hM.ext.cell (hq j u hu)))) ?_
      -- tail
      refine lexNil0 rfl (fun hM => ?_)
      refine seqQ rfl rfl (yNeq_plR (a := o[i]) (b := o[i]) rfl rfl rfl) ?_
      refine seqNil ?_
      refine hF15 _ _ ?_; clear hF15
      -- if t58
      rw [show (!decide (o[i] = o[i])) = false by simp]
      refine wpF rfl ?_
      refine wpSkip ?_
      refine hF13 _ _ ?_; clear hF13
      refine wpRegion ?_
      refine seqQ rfl rfl (yAdd rfl rfl rfl (by unfold In64; omega)) ?_
      refine seqQ rfl rfl (yMove (v := .int _ _) rfl rfl) ?_
      refine seqNil ?_
      -- end loop
      exact loopEnd (i + 1) (by repeat (first | (with_reducible exact Agree.refl _ _) | refine Agree.upd ?_ rfl | refine Agree.over ?_ rfl)) (by omega) ⟨rfl, trivial⟩ ⟨hil, rfl⟩
    · skip
      refine wpExit ?_
      refine hF9 _ _ ?_; clear hF9
      refine wpSeq fun F16 hF16 => ?_
      refine wpRegion ?_
      refine seqQ rfl rfl (yAssign (v := .bool _) rfl rfl) ?_
      refine seqNil ?_
      refine hF16 _ _ ?_; clear hF16
      -- ret
      refine wpRet (fin1 (v := .bool _) rfl rfl ?_)
      exact ⟨rfl, hE⟩
set_option maxRecDepth 100000 in
theorem opnS_log (W : World) : OpnS Try.prog W 23 1 (fun a : Option Addr × Nat × List EH => [.slice a.1 a.2.2.length a.2.1]) (fun a => Rd eEH W.heap a.1 a.2.2 ∧ (∀ x ∈ a.2.2, EhRd W.heap x ∧ x.ev.values.length ≤ 9223372036854775807) ∧ a.2.2.length ≤ a.2.1 ∧ a.2.1 ≤ maxLen ∧ a.2.2.length * Try.prog.bytesOf 86 ≤ reachBytes) :=
  opnS_slice (c := eEH) Try.underlying23 (by kernel_rfl) (opn_ent W).sized
def LhOk (W : World) (L : LH) : Prop := LogRd W.heap L.A L.l ∧ L.l.length ≤ L.c ∧ L.l.length ≤ 140737488355328 ∧ ∀ x ∈ L.l, x.ev.values.length ≤ 9223372036854775807
set_option maxRecDepth 100000 in
theorem bytes_ent : Try.prog.bytesOf 86 = 80 := by kernel_rfl
set_option maxRecDepth 100000 in
theorem opnS_lh (W : World) : OpnS Try.prog W 23 1 eLH.F (LhOk W) :=
  (opnS_log W).map (fun a => (⟨a.1, a.2.1, a.2.2⟩ : LH)) (fun _ => rfl) (fun a h => ⟨⟨h.1, fun x hx => (h.2.1 x hx).1⟩, h.2.2.1, by
    have h5 := h.2.2.2.2
    rw [bytes_ent] at h5
    have : reachBytes ≤ 140737488355328 := by decide
    show a.2.2.length ≤ _
    omega, fun x hx => (h.2.1 x hx).2⟩)
set_option maxRecDepth 100000 in
theorem opnS_logs (W : World) : OpnS Try.prog W 33 1 (fun a : Option Addr × Nat × List LH => [.slice a.1 a.2.2.length a.2.1]) (fun a => Rd eLH W.heap a.1 a.2.2 ∧ (∀ x ∈ a.2.2, LhOk W x) ∧ a.2.2.length ≤ a.2.1 ∧ a.2.1 ≤ maxLen ∧ a.2.2.length * Try.prog.bytesOf 23 ≤ reachBytes) :=
  opnS_slice (c := eLH) Try.underlying33 (by kernel_rfl) (opnS_lh W)
set_option maxRecDepth 100000 in
theorem OpnS.one {P : Program} {W : World} {t : TypeId} {α H : Type} {enc : TypeId × Value → H} {v : Value} {d : DataW H} {p : List MemPlace} {f : α → Value} {Pr : α → Prop} (h : OpnS P W t 1 (fun a => [f a]) Pr) (hv : isOne v = true) (hx : DataW.Trod enc P W 0 (fun _ => true) true t v d p) (hw : (d.weights P t).all (· ≤ reachBytes) = true) : ∃ a, v = f a ∧ Pr a := by
  obtain ⟨fuel, hf⟩ := hx
  obtain ⟨a, ha, hp⟩ := h.2 _ _ _ _ _ hf hw
  rw [cells_one hv] at ha
  exact ⟨a, by simpa using ha, hp⟩
set_option maxRecDepth 100000 in
set_option maxRecDepth 100000 in
theorem logMerge_lifted (os : Os) (started : os.Started) (H : Type) (enc : TypeId × Value → H) :
    ReturnsInHanded {} Try.checked os 4 .any (Rows.logMergeSpec.pre6 enc Try.prog Try.f4 Rows.logMergeRow.domain false) (Rows.logMergeSpec.post enc Try.prog Try.f4 false true false false) := by
  refine law_lifted_sized started Rows.logMergeSpec rfl (by kernel_rfl) Try.func4 rfl
    (fun ds h => by match ds, h with | [_], _ => rfl) (of_decide_eq_true (by kernel_rfl))
    (ChangeSpec.witness6 (enc := enc) (C := Try.checked) false ⟨#[], #[.slice none 0 0], []⟩ 8 (by kernel_rfl) (by kernel_rfl) (by kernel_rfl) (by kernel_rfl)) ?_
  intro W base args ds p hval hA hwt
  rw [Try.params4] at hA hval hwt
  obtain ⟨v0, d0, rfl, rfl, h0⟩ := trodAll_one hA
  have g0 := hval 0 _ v0 rfl rfl
  obtain ⟨⟨A, ca, l⟩, rfl, kA, kl, hl, hl2, -⟩ := (opnS_logs W).one (one_slice Try.underlying33 g0) h0 (by simpa [DataW.weightsEach] using hwt)
  exact merge_walk l A ca W.heap ⟨kA, fun L hL => (kl L hL).1⟩ (maxLen_eq hl hl2) (fun L hL => (kl L hL).2.2.1) (fun L hL => (kl L hL).2.2.2) (fun L hL => (kl L hL).2.1)
set_option maxRecDepth 100000 in
theorem logMerge_holds : Rows.LogMergeSaid :=
  OpenClaim.holds_of_wide 4 Try.f4 rfl rfl rfl rfl rfl rfl rfl ⟨rfl, rfl, rfl, rfl, rfl⟩ rfl rfl rfl rfl rfl (by kernel_rfl) Try.func4 (by kernel_rfl)
    (of_decide_eq_true (by kernel_rfl)) (by unfold Func.isWrapper; first | (rw [if_pos (by decide +kernel)]; kernel_rfl) | (rw [if_neg (by decide +kernel)]; exact ⟨rfl, rfl⟩))
    (fun os started H enc _ => logMerge_lifted os started H enc)
end Go.Proofs.Ytbanngdijmglbaa
