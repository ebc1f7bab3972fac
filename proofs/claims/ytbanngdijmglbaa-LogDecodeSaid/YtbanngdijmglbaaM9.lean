/- Logs: few entries; a log as the other package's; events. -/
import Derived.Test.YtbanngdijmglbaaM8
namespace Go.Proofs.Ytbanngdijmglbaa
open Go.RowKit

/-- A log, as it lies in a slice of logs. -/
structure LH where
  A : Option Addr
  c : Nat
  l : List EH
def eLH : El LH := El.of (fun L => .slice L.A L.l.length L.c) fun _ => rfl
def LH.ents (L : LH) : List Ent := L.l.map EH.ent
/-- Logs in memory. -/
def LogsRd (H : Heap) (B : Option Addr) (ls : List LH) : Prop := Rd eLH H B ls ∧ ∀ L ∈ ls, LogRd H L.A L.l
set_option maxRecDepth 100000 in
theorem LogsRd.ext {H H' : Heap} {B : Option Addr} {ls : List LH} (h : LogsRd H B ls) (hx : Ext H H') : LogsRd H' B ls := ⟨h.1.ext hx, fun L hm => (h.2 L hm).ext hx⟩
def fewE (x : EH) : Prop := x.ev.values.length ≤ 6 ∧ x.clk.length ≤ 10 ∧ ∀ v ∈ x.ev.values, v.s.size ≤ 100
def lens (ls : List LH) : Nat := (ls.map fun L => L.l.length).sum
def FewL (ls : List LH) : Prop := (∀ L ∈ ls, ∀ x ∈ L.l, fewE x) ∧ ls.length ≤ 8 ∧ lens ls ≤ 60
set_option maxRecDepth 100000 in
theorem lens_take {ls : List LH} {k : Nat} (hk : k < ls.length) : lens (ls.take (k + 1)) = lens (ls.take k) + ls[k].l.length := by
  unfold lens
  rw [List.take_succ_eq_append_getElem hk, List.map_append, List.sum_append]
  simp
set_option maxRecDepth 100000 in
theorem lens_le {ls : List LH} {k : Nat} : lens (ls.take k) ≤ lens ls := by
  have := congrArg lens (List.take_append_drop k ls)
  unfold lens at this ⊢
  rw [List.map_append, List.sum_append] at this
  omega
set_option maxRecDepth 100000 in
theorem mem_take_succ {α : Type} {P : α → Prop} {l : List α} {k : Nat} (hk : k < l.length) (h : ∀ x ∈ l.take k, P x) (h1 : P l[k]) : ∀ x ∈ l.take (k + 1), P x := by
  rw [List.take_succ_eq_append_getElem hk]
  intro x hx
  rcases List.mem_append.1 hx with hx | hx
  · exact h x hx
  · simp only [List.mem_singleton] at hx
    subst hx
    exact h1
set_option maxRecDepth 100000 in
theorem few57_c (ls : List LH) (B : Option Addr) (cb : Nat) (H : Heap) (h : LogsRd H B ls) (hl : ls.length ≤ 9223372036854775807) (hs : lens ls ≤ 9223372036854775807) (hv : ∀ L ∈ ls, ∀ x ∈ L.l, x.ev.values.length ≤ 9223372036854775807) :
    CallsH Try.prog 11 [.slice B ls.length cb] H fun v H' => (∃ b, v = .bool b ∧ (b = true → FewL ls)) ∧ H' = H := by
  refine callsH_of Try.func11 rfl Try.ntmps11 (Nat.le_of_ble_eq_true rfl) ?_
  refine wpSeq fun F1 hF1 => ?_
  refine wpRegion ?_
  refine seqQ rfl rfl (yAssign (v := .bool _) rfl rfl) ?_
  refine seqNil ?_
  refine hF1 _ _ ?_; clear hF1
  refine wpSeq fun F2 hF2 => ?_
  refine wpRegion ?_
  refine seqQ rfl rfl (yAssign (v := .int _ _) rfl rfl) ?_
  refine seqNil ?_
  refine hF2 _ _ ?_; clear hF2
  refine wpSeq fun F3 hF3 => ?_
  refine wpSeq fun F4 hF4 => ?_
  refine wpRegion ?_
  refine seqQ rfl rfl (yAssign (v := .int _ _) rfl rfl) ?_
  refine seqNil ?_
  refine hF4 _ _ ?_; clear hF4
  -- loop
  refine wpBlock ?_
  refine wpLoopS [2, 3, 4, 5, 6, 7, 8, 9, 10, 11, 12, 13, 14, 15, 16, 17, 18, 19, 20, 21, 22, 23, 24, 25, 26, 27, 28, 29, 30, 31, 32, 33, 34, 35, 36, 37, 38, 39, 40, 41, 42, 43, 44, 45, 46, 47, 48, 49, 50, 51, 52, 53, 54, 55, 56, 57, 58, 59, 60, 61, 62, 63, 64, 65, 66, 67, 68, 69, 70, 71, 72, 73, 74, 75, 76, 77, 78, 79, 80] (fun r : Nat => [(3, .int .i64 (lens (ls.take r))), (4, .int .i64 r)]) (fun r H' => r ≤ ls.length ∧ (∀ L ∈ ls.take r, ∀ x ∈ L.l, fewE x) ∧ H' = H) (fun r => ls.length - r) 0 ⟨rfl, rfl, trivial⟩ ⟨Nat.zero_le _, (fun L h => by cases h), rfl⟩ ?_
  rintro r J H1 ⟨hr, hf, rfl⟩
  refine wpSeq fun F5 hF5 => ?_
  refine wpSeq fun F6 hF6 => ?_
  refine wpRegion ?_
  refine seqQ rfl rfl (yMove (v := .int _ _) rfl rfl) ?_
  refine seqQ rfl rfl (yMove (v := .slice _ _ _) rfl rfl) ?_
  refine seqQ rfl rfl (yLen rfl Try.underlying33 rfl) ?_
  refine seqQ rfl rfl (yLss rfl rfl rfl) ?_
  refine seqNil ?_
  refine hF6 _ _ ?_; clear hF6
  -- if t10
  refine wpIf rfl (fun hlt => ?_) (fun hlt => ?_)
  · skip
    have hrl : r < ls.length := by omega
    obtain ⟨p, ep, hp⟩ := h.1.at1 hrl
    have hL := h.2 _ (List.getElem_mem hrl)
    have hvL := hv _ (List.getElem_mem hrl)
    have t1 := lens_take hrl
    have t2 := lens_le (ls := ls) (k := r + 1)
    have hnx := mem_take_succ (P := fun L => ∀ x ∈ L.l, fewE x) hrl hf
    generalize ls[r] = L at *
    replace hp : cellH H1 (p.add r) = some (.slice L.A L.l.length L.c) := hp
    refine wpSkip ?_
    refine hF5 _ _ ?_; clear hF5
    refine wpSeq fun F7 hF7 => ?_
    refine wpBlock ?_
    refine wpSeq fun F8 hF8 => ?_
    refine wpRegion ?_
    refine seqQ rfl rfl (yMove (v := .int _ _) rfl rfl) ?_
    refine seqQ rfl rfl (yMove (v := .slice _ _ _) rfl rfl) ?_
    refine seqQ rfl rfl (yMove (v := .int _ _) rfl rfl) ?_
    refine seqQ rfl rfl (yIdxP1 rfl Try.underlying33 Try.sizeOf23 rfl rfl ep rfl hrl) ?_
    refine seqQ rfl rfl (yLoad rfl Try.underlying23 rfl rfl hp) ?_
    refine seqQ rfl rfl (yLen rfl Try.underlying23 rfl) ?_
    refine seqQ rfl rfl (yAddE rfl rfl rfl (by unfold In64; omega) (show ((lens (ls.take r) : Nat) : Int) + (L.l.length : Int) = ((lens (ls.take (r + 1)) : Nat) : Int) by omega)) ?_
    refine seqQ rfl rfl (yAssign (v := .int _ _) rfl rfl) ?_
    refine seqNil ?_
    refine hF8 _ _ ?_; clear hF8
    refine wpSeq fun F9 hF9 => ?_
    refine wpRegion ?_
    refine seqQ rfl rfl (yAssign (v := .int _ _) rfl rfl) ?_
    refine seqNil ?_
    refine hF9 _ _ ?_; clear hF9
    -- loop
    refine wpBlock ?_
    refine wpLoopS [2, 5, 6, 20, 21, 22, 23, 24, 25, 26, 27, 28, 29, 30, 31, 32, 33, 34, 35, 36, 37, 38, 39, 40, 41, 42, 43, 44, 45, 46, 47, 48, 49, 50, 51, 52, 53, 54, 55, 56, 57, 58, 59, 60, 61, 62, 63, 64, 65, 66, 67, 68, 69, 70, 71, 72, 73, 74, 75, 76, 77, 78, 79, 80] (fun i : Nat => [(5, .int .i64 i)]) (fun i H' => i ≤ L.l.length ∧ (∀ x ∈ L.l.take i, fewE x) ∧ H' = H1) (fun i => L.l.length - i) 0 ⟨rfl, trivial⟩ ⟨Nat.zero_le _, (fun x h => by cases h), rfl⟩ ?_
    rintro i J2 H2 ⟨hi, hg, rfl⟩
    refine wpSeq fun F10 hF10 => ?_
    refine wpSeq fun F11 hF11 => ?_
    refine wpRegion ?_
    refine seqQ rfl rfl (yMove (v := .int _ _) rfl rfl) ?_
    refine seqQ rfl rfl (yMove (v := .slice _ _ _) rfl rfl) ?_
    refine seqQ rfl rfl (yMove (v := .int _ _) rfl rfl) ?_
    refine seqQ rfl rfl (yIdxP1 rfl Try.underlying33 Try.sizeOf23 rfl rfl ep rfl hrl) ?_
    refine seqQ rfl rfl (yLoad rfl Try.underlying23 rfl rfl hp) ?_
    refine seqQ rfl rfl (yLen rfl Try.underlying23 rfl) ?_
    refine seqQ rfl rfl (yLss rfl rfl rfl) ?_
    refine seqNil ?_
    refine hF11 _ _ ?_; clear hF11
    -- if t26
    refine wpIf rfl (fun hlt2 => ?_) (fun hlt2 => ?_)
    · skip
      have hil : i < L.l.length := by omega
      obtain ⟨q, eq, hq⟩ := hL.1.at hil
      have hx := hL.2 _ (List.getElem_mem hil)
      have hvx := hvL _ (List.getElem_mem hil)
      have hnx2 := mem_take_succ (P := fewE) hil hg
      generalize L.l[i] = x at *
      refine wpSkip ?_
      refine hF10 _ _ ?_; clear hF10
      refine wpSeq fun F12 hF12 => ?_
      refine wpBlock ?_
      refine wpSeq fun F13 hF13 => ?_
      refine wpSeq fun F14 hF14 => ?_
      refine wpRegion ?_
      refine seqQ rfl rfl (yMove (v := .slice _ _ _) rfl rfl) ?_
      refine seqQ rfl rfl (yMove (v := .int _ _) rfl rfl) ?_
      refine seqQ rfl rfl (yIdxP1 rfl Try.underlying33 Try.sizeOf23 rfl rfl ep rfl hrl) ?_
      refine seqQ rfl rfl (yLoad rfl Try.underlying23 rfl rfl hp) ?_
      refine seqQ rfl rfl (yMove (v := .int _ _) rfl rfl) ?_
      refine seqQ rfl rfl (yIdxP rfl Try.underlying23 Try.sizeOf86 rfl rfl eq rfl hil) ?_
      refine seqQ rfl rfl (yFieldAddr rfl Try.underlying86 rfl Try.sizeOf26 rfl rfl) ?_
      refine seqQ rfl rfl (yFieldAddr rfl Try.underlying26 rfl Try.sizeOf24 rfl rfl) ?_
      refine seqQ rfl rfl (yLoad rfl Try.underlying24 rfl rfl (show cellH _ _ = some (.slice x.VA x.ev.values.length x.vc) from hq 4 _ rfl)) ?_
      refine seqQ rfl rfl (yLen rfl Try.underlying24 rfl) ?_
      refine seqQ rfl rfl (yGtr rfl rfl rfl) ?_
      -- guard t40
      first | refine seqG rfl rfl rfl rfl (fun h40 => ?_) (fun h40 => ?_) | refine seqGB rfl rfl rfl rfl (fun h40 => ?_) (fun h40 => ?_)
      · skip
        refine seqU rfl rfl ?_
        refine seqU rfl rfl ?_
        refine seqU rfl rfl ?_
        refine seqU rfl rfl ?_
        refine seqU rfl rfl ?_
        refine seqU rfl rfl ?_
        refine seqU rfl rfl ?_
        refine seqU rfl rfl ?_
        refine seqU rfl rfl ?_
        refine seqU rfl rfl ?_
        refine seqQ rfl rfl (yPickT (v := .bool _) rfl rfl rfl) ?_
        refine seqNil ?_
        refine hF14 _ _ ?_; clear hF14
        refine wpT rfl ?_
        refine wpSeq fun F15 hF15 => ?_
        refine wpRegion ?_
        refine seqQ rfl rfl (yAssign (v := .bool _) rfl rfl) ?_
        refine seqNil ?_
        refine hF15 _ _ ?_; clear hF15
        refine wpRet (fin1 (v := .bool _) rfl rfl ?_)
        exact ⟨⟨false, rfl, fun h => by cases h⟩, rfl⟩
      refine seqQ rfl rfl (yMove (v := .slice _ _ _) rfl rfl) ?_
      refine seqQ rfl rfl (yMove (v := .int _ _) rfl rfl) ?_
      refine seqQ rfl rfl (yIdxP1 rfl Try.underlying33 Try.sizeOf23 rfl rfl ep rfl hrl) ?_
      refine seqQ rfl rfl (yLoad rfl Try.underlying23 rfl rfl hp) ?_
      refine seqQ rfl rfl (yMove (v := .int _ _) rfl rfl) ?_
      refine seqQ rfl rfl (yIdxP rfl Try.underlying23 Try.sizeOf86 rfl rfl eq rfl hil) ?_
      refine seqQ rfl rfl (yFieldAddr rfl Try.underlying86 rfl Try.sizeOf28 rfl rfl) ?_
      refine seqQ rfl rfl (yLoad rfl Try.underlying28 rfl rfl (show cellH _ _ = some (.slice x.CA x.clk.length x.cc) from hq 5 _ rfl)) ?_
      refine seqQ rfl rfl (yLen rfl Try.underlying28 rfl) ?_
      refine seqQ rfl rfl (yGtr rfl rfl rfl) ?_
      refine seqQ rfl rfl (yPickF (v := .bool _) rfl rfl rfl) ?_
      refine seqNil ?_
      refine hF14 _ _ ?_; clear hF14
      -- if t51
      refine wpIf rfl (fun hc => ?_) (fun hc => ?_)
      · skip
        refine wpSeq fun F16 hF16 => ?_
        refine wpRegion ?_
        refine seqQ rfl rfl (yAssign (v := .bool _) rfl rfl) ?_
        refine seqNil ?_
        refine hF16 _ _ ?_; clear hF16
        -- ret
        refine wpRet (fin1 (v := .bool _) rfl rfl ?_)
        exact ⟨⟨false, rfl, fun h => by cases h⟩, rfl⟩
      · skip
        refine wpSkip ?_
        refine hF13 _ _ ?_; clear hF13
        refine wpSeq fun F17 hF17 => ?_
        refine wpRegion ?_
        refine seqQ rfl rfl (yAssign (v := .int _ _) rfl rfl) ?_
        refine seqNil ?_
        refine hF17 _ _ ?_; clear hF17
        -- loop
        refine wpBlock ?_
        refine wpLoopS [2, 6, 52, 53, 54, 55, 56, 57, 58, 59, 60, 61, 62, 63, 64, 65, 66, 67, 68, 69, 70, 71, 72, 73, 74, 75, 76, 77, 78, 79, 80] (fun k : Nat => [(6, .int .i64 k)]) (fun k H' => k ≤ x.ev.values.length ∧ (∀ v ∈ x.ev.values.take k, v.s.size ≤ 100) ∧ H' = H2) (fun k => x.ev.values.length - k) 0 ⟨rfl, trivial⟩ ⟨Nat.zero_le _, (fun x h => by cases h), rfl⟩ ?_
        rintro k J3 H3 ⟨hk, hw, rfl⟩
        refine wpSeq fun F18 hF18 => ?_
        refine wpSeq fun F19 hF19 => ?_
        refine wpRegion ?_
        refine seqQ rfl rfl (yMove (v := .int _ _) rfl rfl) ?_
        refine seqQ rfl rfl (yMove (v := .slice _ _ _) rfl rfl) ?_
        refine seqQ rfl rfl (yMove (v := .int _ _) rfl rfl) ?_
        refine seqQ rfl rfl (yIdxP1 rfl Try.underlying33 Try.sizeOf23 rfl rfl ep rfl hrl) ?_
        refine seqQ rfl rfl (yLoad rfl Try.underlying23 rfl rfl hp) ?_
        refine seqQ rfl rfl (yMove (v := .int _ _) rfl rfl) ?_
        refine seqQ rfl rfl (yIdxP rfl Try.underlying23 Try.sizeOf86 rfl rfl eq rfl hil) ?_
        refine seqQ rfl rfl (yFieldAddr rfl Try.underlying86 rfl Try.sizeOf26 rfl rfl) ?_
        refine seqQ rfl rfl (yFieldAddr rfl Try.underlying26 rfl Try.sizeOf24 rfl rfl) ?_
        refine seqQ rfl rfl (yLoad rfl Try.underlying24 rfl rfl (show cellH _ _ = some (.slice x.VA x.ev.values.length x.vc) from hq 4 _ rfl)) ?_
        refine seqQ rfl rfl (yLen rfl Try.underlying24 rfl) ?_
        refine seqQ rfl rfl (yLss rfl rfl rfl) ?_
        refine seqNil ?_
        refine hF19 _ _ ?_; clear hF19
        -- if t63
        refine wpIf rfl (fun hlt3 => ?_) (fun hlt3 => ?_)
        · skip
          have hkl : k < x.ev.values.length := by omega
          obtain ⟨z, ez, hz⟩ := hx.1.at hkl
          have hnx3 := mem_take_succ (P := fun v : Val => v.s.size ≤ 100) hkl hw
          generalize x.ev.values[k] = u at *
          refine wpSkip ?_
          refine hF18 _ _ ?_; clear hF18
          refine wpSeq fun F20 hF20 => ?_
          refine wpBlock ?_
          refine wpSeq fun F21 hF21 => ?_
          refine wpRegion ?_
          refine seqQ rfl rfl (yMove (v := .slice _ _ _) rfl rfl) ?_
          refine seqQ rfl rfl (yMove (v := .int _ _) rfl rfl) ?_
          refine seqQ rfl rfl (yIdxP1 rfl Try.underlying33 Try.sizeOf23 rfl rfl ep rfl hrl) ?_
          refine seqQ rfl rfl (yLoad rfl Try.underlying23 rfl rfl hp) ?_
          refine seqQ rfl rfl (yMove (v := .int _ _) rfl rfl) ?_
          refine seqQ rfl rfl (yIdxP rfl Try.underlying23 Try.sizeOf86 rfl rfl eq rfl hil) ?_
          refine seqQ rfl rfl (yFieldAddr rfl Try.underlying86 rfl Try.sizeOf26 rfl rfl) ?_
          refine seqQ rfl rfl (yFieldAddr rfl Try.underlying26 rfl Try.sizeOf24 rfl rfl) ?_
          refine seqQ rfl rfl (yLoad rfl Try.underlying24 rfl rfl (show cellH _ _ = some (.slice x.VA x.ev.values.length x.vc) from hq 4 _ rfl)) ?_
          refine seqQ rfl rfl (yMove (v := .int _ _) rfl rfl) ?_
          refine seqQ rfl rfl (yIdxP rfl Try.underlying24 Try.sizeOf88 rfl rfl ez rfl hkl) ?_
          refine seqQ rfl rfl (yFieldAddr rfl Try.underlying88 rfl Try.sizeOf9 rfl rfl) ?_
          refine seqQ rfl rfl (yLoad rfl Try.underlying9 rfl rfl (show cellH _ _ = some (.string u.s) from hz 2 _ rfl)) ?_
          refine seqQ rfl rfl (yLenS rfl Try.underlying9 rfl) ?_
          refine seqQ rfl rfl (yGtr rfl rfl rfl) ?_
          refine seqNil ?_
          refine hF21 _ _ ?_; clear hF21
          -- if t80
          refine wpIf rfl (fun hbig => ?_) (fun hbig => ?_)
          · skip
            refine wpSeq fun F22 hF22 => ?_
            refine wpRegion ?_
            refine seqQ rfl rfl (yAssign (v := .bool _) rfl rfl) ?_
            refine seqNil ?_
            refine hF22 _ _ ?_; clear hF22
            -- ret
            refine wpRet (fin1 (v := .bool _) rfl rfl ?_)
            exact ⟨⟨false, rfl, fun h => by cases h⟩, rfl⟩
          · skip
            refine wpSkip ?_
            refine hF20 _ _ ?_; clear hF20
            refine wpRegion ?_
            refine seqQ rfl rfl (yMove (v := .int _ _) rfl rfl) ?_
            refine seqQ rfl rfl (yAdd rfl rfl rfl (by unfold In64; omega)) ?_
            refine seqQ rfl rfl (yAssign (v := .int _ _) rfl rfl) ?_
            refine seqNil ?_
            -- end loop
            exact loopEnd (k + 1) (by repeat (first | (with_reducible exact Agree.refl _ _) | refine Agree.upd ?_ rfl | refine Agree.over ?_ rfl)) (by omega) ⟨rfl, trivial⟩ ⟨hkl, hnx3 (by omega), rfl⟩
        · skip
          obtain rfl : k = x.ev.values.length := by omega
          rw [List.take_length] at hw
          refine wpExit ?_
          refine hF12 _ _ ?_; clear hF12
          refine wpRegion ?_
          refine seqQ rfl rfl (yMove (v := .int _ _) rfl rfl) ?_
          refine seqQ rfl rfl (yAdd rfl rfl rfl (by unfold In64; omega)) ?_
          refine seqQ rfl rfl (yAssign (v := .int _ _) rfl rfl) ?_
          refine seqNil ?_
          -- end loop
          exact loopEnd (i + 1) (by repeat (first | (with_reducible exact Agree.refl _ _) | refine Agree.upd ?_ rfl | refine Agree.over ?_ rfl)) (by omega) ⟨rfl, trivial⟩ ⟨hil, hnx2 ⟨by omega, by omega, hw⟩, rfl⟩
    · skip
      obtain rfl : i = L.l.length := by omega
      rw [List.take_length] at hg
      refine wpExit ?_
      refine hF7 _ _ ?_; clear hF7
      refine wpRegion ?_
      refine seqQ rfl rfl (yMove (v := .int _ _) rfl rfl) ?_
      refine seqQ rfl rfl (yAdd rfl rfl rfl (by unfold In64; omega)) ?_
      refine seqQ rfl rfl (yAssign (v := .int _ _) rfl rfl) ?_
      refine seqNil ?_
      -- end loop
      exact loopEnd (r + 1) (by repeat (first | (with_reducible exact Agree.refl _ _) | refine Agree.upd ?_ rfl | refine Agree.over ?_ rfl)) (by omega) ⟨rfl, rfl, trivial⟩ ⟨hrl, hnx hg, rfl⟩
  · skip
    obtain rfl : r = ls.length := by omega
    rw [List.take_length] at hf ⊢
    refine wpExit ?_
    refine hF3 _ _ ?_; clear hF3
    refine wpSeq fun F23 hF23 => ?_
    refine wpRegion ?_
    refine seqQ rfl rfl (yMove (v := .slice _ _ _) rfl rfl) ?_
    refine seqQ rfl rfl (yLen rfl Try.underlying33 rfl) ?_
    refine seqQ rfl rfl (yLeq rfl rfl rfl) ?_
    -- guard t84
    first | refine seqG rfl rfl rfl rfl (fun h84 => ?_) (fun h84 => ?_) | refine seqGB rfl rfl rfl rfl (fun h84 => ?_) (fun h84 => ?_)
    rotate_left
    · skip
      refine seqU rfl rfl ?_
      refine seqU rfl rfl ?_
      refine seqQ rfl rfl (yPickF (v := .bool _) rfl rfl rfl) ?_
      refine seqQ rfl rfl (yAssign (v := .bool _) rfl rfl) ?_
      refine seqNil ?_
      refine hF23 _ _ ?_; clear hF23
      refine wpRet (fin1 (v := .bool _) rfl rfl ?_)
      exact ⟨⟨false, rfl, fun h => by cases h⟩, rfl⟩
    refine seqQ rfl rfl (yMove (v := .int _ _) rfl rfl) ?_
    refine seqQ rfl rfl (yLeq rfl rfl rfl) ?_
    refine seqQ rfl rfl (yPickT (v := .bool _) rfl rfl rfl) ?_
    refine seqQ rfl rfl (yAssign (v := .bool _) rfl rfl) ?_
    refine seqNil ?_
    refine hF23 _ _ ?_; clear hF23
    -- ret
    refine wpRet (fin1 (v := .bool _) rfl rfl ?_)
    exact ⟨⟨_, rfl, fun hb => ⟨hf, by omega, by simp at hb; omega⟩⟩, rfl⟩
set_option maxRecDepth 100000 in
theorem elem_log : Elem Try.prog 35 (.slice none 0 0) 1 24 := by unfold Elem; kernel_rfl
set_option maxRecDepth 100000 in
theorem elem_logR : Elem Try.prog 23 (.slice none 0 0) 1 24 := by unfold Elem; kernel_rfl
/-- Logs that are own and apart. -/
structure LogsOwn (b : Nat) (T U : TypeId) (H : Heap) (v : Value) (ls : List LH) : Prop where
  own : Own eLH T H b v ls
  logs : ∀ L ∈ ls, Own eEH U H b (.slice L.A L.l.length L.c) L.l ∧ Apart v (.slice L.A L.l.length L.c)
set_option maxRecDepth 100000 in
theorem LogsOwn.ext {b : Nat} {T U : TypeId} {H H' : Heap} {v : Value} {ls : List LH} (h : LogsOwn b T U H v ls) (hx : Ext H H') : LogsOwn b T U H' v ls := ⟨h.own.ext hx, fun L hm => ⟨(h.logs L hm).1.ext hx, (h.logs L hm).2⟩⟩
set_option maxRecDepth 100000 in
theorem LogsOwn.rd {b : Nat} {T U : TypeId} {H : Heap} {A : Option Addr} {n c : Nat} {ls : List LH} (h : LogsOwn b T U H (.slice A n c) ls) (hx : ∀ L ∈ ls, ∀ x ∈ L.l, EhRd H x) : LogsRd H A ls := ⟨(Own.rd h.own).2, fun L hm => ⟨(Own.rd (h.logs L hm).1).2, hx L hm⟩⟩
set_option maxRecDepth 100000 in
theorem own57_c (ls : List LH) (B : Option Addr) (cb : Nat) (H : Heap) (h : LogsRd H B ls) (hl : ls.length ≤ 100000) (hs : ∀ L ∈ ls, L.l.length ≤ 100000) :
    CallsH Try.prog 12 [.slice B ls.length cb] H fun v H' => ∃ ls', LogsOwn H.size 35 72 H' v ls' ∧ ls'.map LH.l = ls.map LH.l ∧ Ext H H' := by
  refine callsH_of Try.func12 rfl Try.ntmps12 (Nat.le_of_ble_eq_true rfl) ?_
  refine wpSeq fun F1 hF1 => ?_
  refine wpRegion ?_
  refine seqQ rfl rfl (yAssign (v := .slice _ _ _) rfl rfl) ?_
  refine seqNil ?_
  refine hF1 _ _ ?_; clear hF1
  refine wpSeq fun F2 hF2 => ?_
  refine wpRegion ?_
  refine seqQ rfl rfl (yAssign (v := .slice _ _ _) rfl rfl) ?_
  refine seqNil ?_
  refine hF2 _ _ ?_; clear hF2
  refine wpSeq fun F3 hF3 => ?_
  refine wpSeq fun F4 hF4 => ?_
  refine wpRegion ?_
  refine seqQ rfl rfl (yMove (v := .slice _ _ _) rfl rfl) ?_
  refine seqQ rfl rfl (yLen rfl Try.underlying33 rfl) ?_
  refine seqQ rfl rfl (yMove (v := .int _ _) rfl rfl) ?_
  refine seqNil ?_
  refine hF4 _ _ ?_; clear hF4
  -- loop
  refine wpBlock ?_
  refine wpLoopS [3, 5, 6, 8, 11, 12, 13, 14, 15, 16, 17, 18, 19, 20, 21, 22, 23, 24, 25, 26, 27, 28, 29, 30, 31, 32, 33, 34] (fun x : Nat × Value × List LH => [(11, .int .i64 x.1), (3, x.2.1)]) (fun x H' => x.1 ≤ ls.length ∧ Ext H H' ∧ LogsOwn H.size 35 72 H' x.2.1 x.2.2 ∧ x.2.2.map LH.l = (ls.take x.1).map LH.l) (fun x => ls.length - x.1) (0, .slice none 0 0, []) ⟨rfl, rfl, trivial⟩ ⟨Nat.zero_le _, Ext.refl _, ⟨Own.nil _ _, (fun L h => by cases h)⟩, rfl⟩ ?_
  rintro ⟨k, out, ls'⟩ J Hk ⟨hk, hE, lo, hmap⟩
  dsimp only at hk lo hmap
  have hll : ls'.length = k := by have := congrArg List.length hmap; simp at this; omega
  obtain ⟨O, oc, rfl, -⟩ := lo.own.form
  have zE := hE.size
  refine wpSeq fun F5 hF5 => ?_
  refine wpRegion ?_
  refine seqQ rfl rfl (yLss rfl rfl rfl) ?_
  refine seqNil ?_
  refine hF5 _ _ ?_; clear hF5
  refine wpSeq fun F6 hF6 => ?_
  -- if t12
  refine wpIf rfl (fun hlt => ?_) (fun hlt => ?_)
  · skip
    have hkl : k < ls.length := by dsimp only at hlt; omega
    obtain ⟨p, ep, hp⟩ := (h.1.ext hE).at1 hkl
    obtain ⟨hL, -⟩ := h.2 _ (List.getElem_mem hkl)
    have hsL := hs _ (List.getElem_mem hkl)
    have hmap1 : (ls.take (k + 1)).map LH.l = (ls.take k).map LH.l ++ [ls[k].l] := by rw [List.take_succ_eq_append_getElem hkl, List.map_append]; rfl
    generalize ls[k] = L at *
    refine wpSkip ?_
    refine hF6 _ _ ?_; clear hF6
    refine wpSeq fun F7 hF7 => ?_
    refine wpBlock ?_
    refine wpSeq fun F8 hF8 => ?_
    refine wpRegion ?_
    refine seqQ rfl rfl (yIdxP1 rfl Try.underlying33 Try.sizeOf23 rfl rfl ep rfl hkl) ?_
    refine seqQ rfl rfl (yLoad rfl Try.underlying23 rfl rfl (show cellH Hk _ = some (.slice L.A L.l.length L.c) from hp)) ?_
    refine seqQ rfl rfl (yAssign (v := .slice _ _ _) rfl rfl) ?_
    refine seqNil ?_
    refine hF8 _ _ ?_; clear hF8
    refine wpSeq fun F9 hF9 => ?_
    refine wpRegion ?_
    refine seqQ rfl rfl (yAssign (v := .slice _ _ _) rfl rfl) ?_
    refine seqNil ?_
    refine hF9 _ _ ?_; clear hF9
    refine wpSeq fun F10 hF10 => ?_
    refine wpSeq fun F11 hF11 => ?_
    refine wpRegion ?_
    refine seqQ rfl rfl (yMove (v := .slice _ _ _) rfl rfl) ?_
    refine seqQ rfl rfl (yLen rfl Try.underlying23 rfl) ?_
    refine seqQ rfl rfl (yMove (v := .int _ _) rfl rfl) ?_
    refine seqNil ?_
    refine hF11 _ _ ?_; clear hF11
    -- loop
    refine wpBlock ?_
    refine wpLoopS [6, 8, 17, 18, 19, 20, 21, 22, 23, 24, 25, 26, 27, 28, 29] (fun y : Nat × Value => [(17, .int .i64 y.1), (6, y.2)]) (fun y H' => y.1 ≤ L.l.length ∧ Ext Hk H' ∧ Own eEH 72 H' Hk.size y.2 (L.l.take y.1)) (fun y => L.l.length - y.1) (0, .slice none 0 0) ⟨rfl, rfl, trivial⟩ ⟨Nat.zero_le _, Ext.refl _, Own.nil _ _⟩ ?_
    rintro ⟨i, m⟩ J2 Hi ⟨hi, hEi, om⟩
    dsimp only at hi om
    have hml : (L.l.take i).length = i := by rw [List.length_take]; omega
    obtain ⟨M, mc, rfl, -⟩ := om.form
    have zi := hEi.size
    refine wpSeq fun F12 hF12 => ?_
    refine wpRegion ?_
    refine seqQ rfl rfl (yLss rfl rfl rfl) ?_
    refine seqNil ?_
    refine hF12 _ _ ?_; clear hF12
    refine wpSeq fun F13 hF13 => ?_
    -- if t18
    refine wpIf rfl (fun hlt2 => ?_) (fun hlt2 => ?_)
    · skip
      have hil : i < L.l.length := by dsimp only at hlt2; omega
      obtain ⟨q, eq, hq⟩ := (hL.ext (hE.trans hEi)).at hil
      have ht1 : L.l.take (i + 1) = L.l.take i ++ [L.l[i]] := List.take_succ_eq_append_getElem hil
      generalize L.l[i] = x at *
      refine wpSkip ?_
      refine hF13 _ _ ?_; clear hF13
      refine wpSeq fun F14 hF14 => ?_
      refine wpBlock ?_
      refine wpSeq fun F15 hF15 => ?_
      refine wpRegion ?_
      refine seqQ rfl rfl (yIdxP rfl Try.underlying23 Try.sizeOf86 rfl rfl eq rfl hil) ?_
      refine seqQ rfl rfl (yLoadC (cs := eEH.F x) rfl Try.underlying86 rfl Try.sizeOf86 rfl hq) ?_
      refine seqN rfl rfl (nAlloc rfl Try.zeroValue86 rfl) (fun g8 H8 hx8 hB8 hg8 hl8 => ?_)
      -- e slot None: store T86 t8 t20
      refine seqE0 rfl rfl (stepStoreB rfl (by kernel_rfl) rfl rfl rfl hB8 rfl ?_)
      intro H2 h8 hK2
      have z8 := hx8.size
      have z2 := hK2.size
      have hE2 : Ext Hk H2 := (hEi.trans hx8).mine hK2 (by simp; omega)
      have om2 : Own eEH 72 H2 Hk.size (.slice M (L.l.take i).length mc) (L.l.take i) := (om.ext hx8).keep hK2 (fun g hg => by have := (om.lt g hg).2; simp; omega)
      refine seqNil ?_
      refine hF15 _ _ ?_; clear hF15
      refine wpRegion ?_
      refine seqQ rfl rfl (yMove (v := .slice _ _ _) rfl rfl) ?_
      refine seqQ rfl rfl (yFieldAddr rfl Try.underlying86 rfl Try.sizeOf26 rfl rfl) ?_
      refine seqQ rfl rfl (yLoadC (cs := evC x.ev x.VA x.vc) rfl Try.underlying26 rfl Try.sizeOf26 rfl (fun j u hu => h8.cell (ev_sub hu))) ?_
      refine seqQ rfl rfl (yFieldAddr rfl Try.underlying86 rfl Try.sizeOf28 rfl rfl) ?_
      refine seqQ rfl rfl (yLoad rfl Try.underlying28 rfl rfl (show cellH H2 ((⟨g8, 0, none⟩ : Addr).add 5) = some (.slice x.CA x.clk.length x.cc) from h8.cell (j := 5) rfl)) ?_
      refine seqQ rfl rfl (yBuild (pl := [(0, 5), (5, 1)]) (vs := [(0, .agg _), (1, .slice _ _ _)]) rfl Try.underlying72 Try.zeroValue72 rfl (by unfold Places; kernel_rfl) rfl rfl) ?_
      refine seqN rfl rfl (nBuildSliceN (vs := [.agg _]) rfl Try.underlying35 Try.sizeOf72 Try.zeroValue72 rfl rfl rfl rfl rfl) (fun g27 H27 hx27 hB27 hg27 hl27 => ?_)
      -- e slot 28: builtin append t21 t27 : [35, 35]
      refine seqE rfl rfl (stepApp (c := eEH) (om2.ext hx27) rfl Try.underlying35 elem_ent rfl (by omega) rfl rfl rfl (Blk.rd (c := eEH) (l := [x]) hB27) (by simp only [List.length_singleton]; omega) (by have := hx27.size; omega) ?_)
      intro v' H3 o3 g3
      rw [← ht1] at o3
      have hE3 : Ext Hk H3 := g3.ext (hE2.trans hx27) (fun g hg => (om2.lt g hg).1)
      obtain ⟨A3, c3, rfl, -⟩ := o3.form
      refine seqQ rfl rfl (yAssign (v := .slice _ _ _) rfl rfl) ?_
      refine seqNil ?_
      refine hF14 _ _ ?_; clear hF14
      refine wpRegion ?_
      refine seqQ rfl rfl (yAdd rfl rfl rfl (by unfold In64; omega)) ?_
      refine seqQ rfl rfl (yMove (v := .int _ _) rfl rfl) ?_
      refine seqNil ?_
      -- end loop
      exact loopEnd (i + 1, _) (by repeat (first | (with_reducible exact Agree.refl _ _) | refine Agree.upd ?_ rfl | refine Agree.over ?_ rfl)) (by dsimp only; omega) ⟨rfl, rfl, trivial⟩ ⟨hil, hE3, o3⟩
    · skip
      obtain rfl : i = L.l.length := by dsimp only at hlt2; omega
      rw [List.take_length] at om ⊢
      have aM : Apart (.slice O ls'.length oc) (.slice M L.l.length mc) := apart_lt om (fun g hg => .inr (by have := (lo.own.lt g hg).2; omega))
      refine wpExit ?_
      refine hF10 _ _ ?_; clear hF10
      refine wpRegion ?_
      refine seqQ rfl rfl (yMove (v := .slice _ _ _) rfl rfl) ?_
      refine seqQ rfl rfl (yMove (v := .slice _ _ _) rfl rfl) ?_
      refine seqN rfl rfl (nBuildSlice (vs := [.slice _ _ _]) rfl Try.underlying36 Try.sizeOf35 Try.zeroValue35 rfl rfl rfl rfl) (fun g32 H32 hx32 hB32 hg32 hl32 => ?_)
      -- e slot 33: builtin append t30 t32 : [36, 36]
      refine seqE rfl rfl (stepApp (c := eLH) ((lo.own.ext hEi).ext hx32) rfl Try.underlying36 elem_log rfl (by omega) rfl rfl rfl (Blk.rd (c := eLH) (l := [⟨M, mc, L.l⟩]) hB32) (by simp only [List.length_singleton]; omega) (by have := hx32.size; omega) ?_)
      intro v' H4 o4 g4
      have hE4 : Ext H H4 := g4.ext ((hE.trans hEi).trans hx32) (fun g hg => (lo.own.lt g hg).1)
      have lo4 : LogsOwn H.size 35 72 H4 v' (ls' ++ [⟨M, mc, L.l⟩]) := ⟨o4, fun y hy => by
        rcases List.mem_append.1 hy with hy | hy
        · obtain ⟨o, a⟩ := lo.logs y hy
          exact ⟨((o.ext hEi).ext hx32).grew g4 a, a.grew ((o.ext hEi).ext hx32) g4⟩
        · simp only [List.mem_singleton] at hy
          subst hy
          exact ⟨((om.mono (by omega)).ext hx32).grew g4 aM, aM.grew (om.ext hx32) g4⟩⟩
      obtain ⟨A4, c4, rfl, -⟩ := o4.form
      refine seqQ rfl rfl (yAssign (v := .slice _ _ _) rfl rfl) ?_
      refine seqNil ?_
      refine hF7 _ _ ?_; clear hF7
      refine wpRegion ?_
      refine seqQ rfl rfl (yAdd rfl rfl rfl (by unfold In64; omega)) ?_
      refine seqQ rfl rfl (yMove (v := .int _ _) rfl rfl) ?_
      refine seqNil ?_
      -- end loop
      exact loopEnd (k + 1, _, ls' ++ [⟨M, mc, L.l⟩]) (by repeat (first | (with_reducible exact Agree.refl _ _) | refine Agree.upd ?_ rfl | refine Agree.over ?_ rfl)) (by dsimp only; omega) ⟨rfl, rfl, trivial⟩ ⟨hkl, hE4, lo4, by dsimp only; rw [List.map_append, hmap, hmap1]; rfl⟩
  · skip
    obtain rfl : k = ls.length := by dsimp only at hlt; omega
    rw [List.take_length] at hmap
    refine wpExit ?_
    refine hF3 _ _ ?_; clear hF3
    refine wpSeq fun F16 hF16 => ?_
    refine wpRegion ?_
    refine seqQ rfl rfl (yMove (v := .slice _ _ _) rfl rfl) ?_
    refine seqQ rfl rfl (yAssign (v := .slice _ _ _) rfl rfl) ?_
    refine seqNil ?_
    refine hF16 _ _ ?_; clear hF16
    -- ret
    refine wpRet (fin1 (v := .slice _ _ _) rfl rfl ?_)
    exact ⟨ls', lo, hmap, hE⟩
set_option maxRecDepth 100000 in
theorem theirs_c (l : List EH) (A : Option Addr) (ca : Nat) (H : Heap) (h : Rd eEH H A l) (hl : l.length ≤ 100000) :
    CallsH Try.prog 20 [.slice A l.length ca] H fun v H' => Own eEH 86 H' H.size v l ∧ Ext H H' := by
  refine callsH_of Try.func20 rfl Try.ntmps20 (Nat.le_of_ble_eq_true rfl) ?_
  refine wpSeq fun F1 hF1 => ?_
  refine wpRegion ?_
  refine seqQ rfl rfl (yAssign (v := .slice _ _ _) rfl rfl) ?_
  refine seqNil ?_
  refine hF1 _ _ ?_; clear hF1
  refine wpSeq fun F2 hF2 => ?_
  refine wpRegion ?_
  refine seqQ rfl rfl (yAssign (v := .slice _ _ _) rfl rfl) ?_
  refine seqNil ?_
  refine hF2 _ _ ?_; clear hF2
  refine wpSeq fun F3 hF3 => ?_
  refine wpSeq fun F4 hF4 => ?_
  refine wpRegion ?_
  refine seqQ rfl rfl (yMove (v := .slice _ _ _) rfl rfl) ?_
  refine seqQ rfl rfl (yLen rfl Try.underlying35 rfl) ?_
  refine seqQ rfl rfl (yMove (v := .int _ _) rfl rfl) ?_
  refine seqNil ?_
  refine hF4 _ _ ?_; clear hF4
  -- loop
  refine wpBlock ?_
  refine wpLoopS [3, 5, 8, 9, 10, 11, 12, 13, 14, 15, 16, 17, 18, 19, 20] (fun y : Nat × Value => [(8, .int .i64 y.1), (3, y.2)]) (fun y H' => y.1 ≤ l.length ∧ Ext H H' ∧ Own eEH 86 H' H.size y.2 (l.take y.1)) (fun y => l.length - y.1) (0, .slice none 0 0) ⟨rfl, rfl, trivial⟩ ⟨Nat.zero_le _, Ext.refl _, Own.nil _ _⟩ ?_
  rintro ⟨i, m⟩ J2 Hi ⟨hi, hEi, om⟩
  dsimp only at hi om
  have hml : (l.take i).length = i := by rw [List.length_take]; omega
  obtain ⟨M, mc, rfl, -⟩ := om.form
  have zi := hEi.size
  refine wpSeq fun F5 hF5 => ?_
  refine wpRegion ?_
  refine seqQ rfl rfl (yLss rfl rfl rfl) ?_
  refine seqNil ?_
  refine hF5 _ _ ?_; clear hF5
  refine wpSeq fun F6 hF6 => ?_
  -- if t9
  refine wpIf rfl (fun hlt2 => ?_) (fun hlt2 => ?_)
  · skip
    have hil : i < l.length := by dsimp only at hlt2; omega
    obtain ⟨q, eq, hq⟩ := (h.ext hEi).at hil
    have ht1 : l.take (i + 1) = l.take i ++ [l[i]] := List.take_succ_eq_append_getElem hil
    generalize l[i] = x at *
    refine wpSkip ?_
    refine hF6 _ _ ?_; clear hF6
    refine wpSeq fun F7 hF7 => ?_
    refine wpBlock ?_
    refine wpSeq fun F8 hF8 => ?_
    refine wpRegion ?_
    refine seqQ rfl rfl (yIdxP rfl Try.underlying35 Try.sizeOf72 rfl rfl eq rfl hil) ?_
    refine seqQ rfl rfl (yLoadC (cs := eEH.F x) rfl Try.underlying72 rfl Try.sizeOf72 rfl hq) ?_
    refine seqN rfl rfl (nAlloc rfl Try.zeroValue72 rfl) (fun g5 H5 hx5 hB5 hg5 hl5 => ?_)
    -- e slot None: store T72 t5 t11
    refine seqE0 rfl rfl (stepStoreB rfl (by kernel_rfl) rfl rfl rfl hB5 rfl ?_)
    intro H2 h8 hK2
    have z8 := hx5.size
    have z2 := hK2.size
    have hE2 : Ext H H2 := (hEi.trans hx5).mine hK2 (by simp; omega)
    have om2 : Own eEH 86 H2 H.size (.slice M (l.take i).length mc) (l.take i) := (om.ext hx5).keep hK2 (fun g hg => by have := (om.lt g hg).2; simp; omega)
    refine seqNil ?_
    refine hF8 _ _ ?_; clear hF8
    refine wpRegion ?_
    refine seqQ rfl rfl (yMove (v := .slice _ _ _) rfl rfl) ?_
    refine seqQ rfl rfl (yFieldAddr rfl Try.underlying72 rfl Try.sizeOf26 rfl rfl) ?_
    refine seqQ rfl rfl (yLoadC (cs := evC x.ev x.VA x.vc) rfl Try.underlying26 rfl Try.sizeOf26 rfl (fun j u hu => h8.cell (ev_sub hu))) ?_
    refine seqQ rfl rfl (yFieldAddr rfl Try.underlying72 rfl Try.sizeOf44 rfl rfl) ?_
    refine seqQ rfl rfl (yLoad rfl Try.underlying44 rfl rfl (show cellH H2 ((⟨g5, 0, none⟩ : Addr).add 5) = some (.slice x.CA x.clk.length x.cc) from h8.cell (j := 5) rfl)) ?_
    refine seqQ rfl rfl (yBuild (pl := [(0, 5), (5, 1)]) (vs := [(0, .agg _), (1, .slice _ _ _)]) rfl Try.underlying86 Try.zeroValue86 rfl (by unfold Places; kernel_rfl) rfl rfl) ?_
    refine seqN rfl rfl (nBuildSliceN (vs := [.agg _]) rfl Try.underlying23 Try.sizeOf86 Try.zeroValue86 rfl rfl rfl rfl rfl) (fun g18 H18 hx18 hB18 hg18 hl18 => ?_)
    -- e slot 19: builtin append t12 t18 : [23, 23]
    refine seqE rfl rfl (stepApp (c := eEH) (om2.ext hx18) rfl Try.underlying23 elem_entR rfl (by omega) rfl rfl rfl (Blk.rd (c := eEH) (l := [x]) hB18) (by simp only [List.length_singleton]; omega) (by have := hx18.size; omega) ?_)
    intro v' H3 o3 g3
    rw [← ht1] at o3
    have hE3 : Ext H H3 := g3.ext (hE2.trans hx18) (fun g hg => (om2.lt g hg).1)
    obtain ⟨A3, c3, rfl, -⟩ := o3.form
    refine seqQ rfl rfl (yAssign (v := .slice _ _ _) rfl rfl) ?_
    refine seqNil ?_
    refine hF7 _ _ ?_; clear hF7
    refine wpRegion ?_
    refine seqQ rfl rfl (yAdd rfl rfl rfl (by unfold In64; omega)) ?_
    refine seqQ rfl rfl (yMove (v := .int _ _) rfl rfl) ?_
    refine seqNil ?_
    -- end loop
    exact loopEnd (i + 1, _) (by repeat (first | (with_reducible exact Agree.refl _ _) | refine Agree.upd ?_ rfl | refine Agree.over ?_ rfl)) (by dsimp only; omega) ⟨rfl, rfl, trivial⟩ ⟨hil, hE3, o3⟩
  · skip
    obtain rfl : i = l.length := by dsimp only at hlt2; omega
    rw [List.take_length] at om ⊢
    refine wpExit ?_
    refine hF3 _ _ ?_; clear hF3
    refine wpSeq fun F9 hF9 => ?_
    refine wpRegion ?_
    refine seqQ rfl rfl (yMove (v := .slice _ _ _) rfl rfl) ?_
    refine seqQ rfl rfl (yAssign (v := .slice _ _ _) rfl rfl) ?_
    refine seqNil ?_
    refine hF9 _ _ ?_; clear hF9
    -- ret
    refine wpRet (fin1 (v := .slice _ _ _) rfl rfl ?_)
    exact ⟨om, hEi⟩
end Go.Proofs.Ytbanngdijmglbaa
