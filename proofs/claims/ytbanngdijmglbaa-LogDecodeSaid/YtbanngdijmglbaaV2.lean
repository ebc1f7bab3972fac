/- Walks over package vclock: the rest. -/
import Derived.Test.YtbanngdijmglbaaV1
namespace Go.Proofs.Ytbanngdijmglbaa
open Go.RowKit

set_option maxRecDepth 100000 in
theorem drop_cons {α : Type} {l : List α} {k : Nat} (h : k < l.length) : l.drop k = l[k] :: l.drop (k + 1) := List.drop_eq_getElem_cons h
set_option maxRecDepth 100000 in
theorem eqStep {a b : List Int} {k : Nat} (ha : k < a.length) (hb : k < b.length) : decide (a.drop k = b.drop k) = (decide (a[k] = b[k]) && decide (a.drop (k + 1) = b.drop (k + 1))) := by
  rw [drop_cons ha, drop_cons hb]
  rw [Bool.eq_iff_iff, Bool.and_eq_true, decide_eq_true_iff, decide_eq_true_iff, decide_eq_true_iff, List.cons.injEq]

set_option maxRecDepth 100000 in
theorem sEqual_c (A B : Option Addr) (ca cb : Nat) (a b : List Int) (H : Heap) (hA : Rd eInt H A a) (hB : Rd eInt H B b) (ha : a.length ≤ 1000000000) (hb : b.length ≤ 1000000000) :
    CallsH Try.prog 58 [.slice A a.length ca, .slice B b.length cb] H fun v H' => v = .bool (decide (a = b)) ∧ H' = H := by
  refine callsH_of Try.func58 rfl Try.ntmps58 (Nat.le_of_ble_eq_true rfl) ?_
  refine wpSeq fun F1 hF1 => ?_
  refine wpRegion ?_
  refine seqQ rfl rfl (yAssign (v := .bool _) rfl rfl) ?_
  refine seqNil ?_
  refine hF1 _ _ ?_; clear hF1
  refine wpSeq fun F2 hF2 => ?_
  refine wpSeq fun F3 hF3 => ?_
  refine wpRegion ?_
  refine seqQ rfl rfl (yMove (v := .slice _ _ _) rfl rfl) ?_
  refine seqQ rfl rfl (yLen rfl Try.underlying44 rfl) ?_
  refine seqQ rfl rfl (yMove (v := .slice _ _ _) rfl rfl) ?_
  refine seqQ rfl rfl (yLen rfl Try.underlying44 rfl) ?_
  refine seqQ rfl rfl (yNeq rfl rfl rfl) ?_
  refine seqNil ?_
  refine hF3 _ _ ?_; clear hF3
  -- if t10
  refine wpCond rfl (fun hl => ?_) (fun hl => ?_)
  · skip
    refine wpSeq fun F4 hF4 => ?_
    refine wpRegion ?_
    refine seqQ rfl rfl (yAssign (v := .bool _) rfl rfl) ?_
    refine seqNil ?_
    refine hF4 _ _ ?_; clear hF4
    -- ret
    refine wpRet (fin1 (v := .bool _) rfl rfl ?_)
    refine ⟨?_, rfl⟩
    have : a ≠ b := by intro e; subst e; simp at hl
    rw [decide_eq_false this]
  · skip
    have hl : a.length = b.length := by simp at hl; omega
    refine wpSkip ?_
    refine hF2 _ _ ?_; clear hF2
    refine wpSeq fun F5 hF5 => ?_
    refine wpSeq fun F6 hF6 => ?_
    refine wpRegion ?_
    refine seqQ rfl rfl (yMove (v := .slice _ _ _) rfl rfl) ?_
    refine seqQ rfl rfl (yLen rfl Try.underlying44 rfl) ?_
    refine seqQ rfl rfl (yMove (v := .int _ _) rfl rfl) ?_
    refine seqNil ?_
    refine hF6 _ _ ?_; clear hF6
    -- loop
    refine wpBlock ?_
    refine wpLoopS [4, 5, 13, 14, 15, 16, 17, 18, 19, 20, 21, 22, 23, 24, 25] (fun k : Nat => [(13, .int .i64 k)]) (fun k H' => k ≤ a.length ∧ H' = H ∧ decide (a.drop k = b.drop k) = decide (a = b)) (fun k => a.length - k) 0 ⟨rfl, trivial⟩ ⟨Nat.zero_le _, rfl, rfl⟩ ?_
    rintro k J H' ⟨hk, rfl, hd⟩
    refine wpSeq fun F7 hF7 => ?_
    refine wpRegion ?_
    refine seqQ rfl rfl (yLss rfl rfl rfl) ?_
    refine seqNil ?_
    refine hF7 _ _ ?_; clear hF7
    refine wpSeq fun F8 hF8 => ?_
    -- if t14
    refine wpIf rfl (fun hlt => ?_) (fun hlt => ?_)
    · skip
      have hka : k < a.length := by omega
      have hkb : k < b.length := by omega
      obtain ⟨p, rfl, hp⟩ := hA.at1 hka
      obtain ⟨q, rfl, hq⟩ := hB.at1 hkb
      rw [eqStep hka hkb] at hd
      refine wpSkip ?_
      refine hF8 _ _ ?_; clear hF8
      refine wpSeq fun F9 hF9 => ?_
      refine wpBlock ?_
      refine wpSeq fun F10 hF10 => ?_
      refine wpRegion ?_
      refine seqQ rfl rfl (yMove (v := .int _ _) rfl rfl) ?_
      refine seqQ rfl rfl (yAssign (v := .int _ _) rfl rfl) ?_
      refine seqNil ?_
      refine hF10 _ _ ?_; clear hF10
      refine wpSeq fun F11 hF11 => ?_
      refine wpRegionD Try_mixed [.q, .q, .q, .q, .q, .q, .q, .q, .q] 8 [0, 0, 3, 7, 0, 0, 48, 112, 255] [] (by kernel_rfl) _ rfl [0, 1, 2, 3, 4, 5, 6, 7] rfl (by simp) ?_
      refine lexQ rfl rfl rfl rfl (fun H hM => (yMove (v := .slice _ _ _) rfl rfl)) ?_
      refine lexQ rfl rfl rfl rfl (fun H hM => (yMove (v := .int _ _) rfl rfl)) ?_
      refine lexQ rfl rfl rfl rfl (fun H hM => (yIdx1 rfl Try.underlying44 Try.sizeOf3 rfl rfl rfl (by omega))) ?_
      refine lexQ rfl rfl rfl rfl (fun H hM => (yLoad rfl Try.underlying3 rfl rfl (hM.ext.cell hp))) ?_
      refine lexQ rfl rfl rfl rfl (fun H hM => (yMove (v := .slice _ _ _) rfl rfl)) ?_
      refine lexQ rfl rfl rfl rfl (fun H hM => (yMove (v := .int _ _) rfl rfl)) ?_
      refine lexQ rfl rfl rfl rfl (fun H hM => (yIdx1 rfl Try.underlying44 Try.sizeOf3 rfl rfl rfl (by omega))) ?_
      refine lexQ rfl rfl rfl rfl (fun H hM => (yLoad rfl Try.underlying3 rfl rfl (hM.ext.cell hq))) ?_
      -- tail
      refine lexNil0 rfl (fun hM => ?_)
      refine seqQ rfl rfl (yNeq rfl rfl rfl) ?_
      refine seqNil ?_
      refine hF11 _ _ ?_; clear hF11
      -- if t24
      refine wpCond rfl (fun hne => ?_) (fun hne => ?_)
      · skip
        refine wpSeq fun F12 hF12 => ?_
        refine wpRegion ?_
        refine seqQ rfl rfl (yAssign (v := .bool _) rfl rfl) ?_
        refine seqNil ?_
        refine hF12 _ _ ?_; clear hF12
        -- ret
        refine wpRet (fin1 (v := .bool _) rfl rfl ?_)
        exact ⟨by rw [← hd]; simp at hne; simp [hne], rfl⟩
      · skip
        refine wpSkip ?_
        refine hF9 _ _ ?_; clear hF9
        refine wpRegion ?_
        refine seqQ rfl rfl (yAdd rfl rfl rfl (by unfold In64; omega)) ?_
        refine seqQ rfl rfl (yMove (v := .int _ _) rfl rfl) ?_
        refine seqNil ?_
        -- end loop
        exact loopEnd (k + 1) (by repeat (first | (with_reducible exact Agree.refl _ _) | refine Agree.upd ?_ rfl | refine Agree.over ?_ rfl)) (by omega) ⟨rfl, trivial⟩ ⟨by omega, rfl, by rw [← hd]; simp at hne; simp [hne]⟩
    · skip
      refine wpExit ?_
      refine hF5 _ _ ?_; clear hF5
      refine wpSeq fun F13 hF13 => ?_
      refine wpRegion ?_
      refine seqQ rfl rfl (yAssign (v := .bool _) rfl rfl) ?_
      refine seqNil ?_
      refine hF13 _ _ ?_; clear hF13
      -- ret
      refine wpRet (fin1 (v := .bool _) rfl rfl ?_)
      exact ⟨by rw [← hd, List.drop_of_length_le (by omega), List.drop_of_length_le (by omega)]; simp, rfl⟩

set_option maxRecDepth 100000 in
theorem equal_c (A B : Option Addr) (ca cb : Nat) (a b : List Int) (H : Heap) (hA : Rd eInt H A a) (hB : Rd eInt H B b) (ha : a.length ≤ 1000000000) (hb : b.length ≤ 1000000000) :
    CallsH Try.prog 34 [.slice A a.length ca, .slice B b.length cb] H fun v H' => v = .bool (decide (a = b)) ∧ H' = H := by
  refine callsH_of Try.func34 rfl Try.ntmps34 (Nat.le_of_ble_eq_true rfl) ?_
  refine wpSeq fun F1 hF1 => ?_
  refine wpRegion ?_
  refine seqQ rfl rfl (yAssign (v := .bool _) rfl rfl) ?_
  refine seqNil ?_
  refine hF1 _ _ ?_; clear hF1
  refine wpSeq fun F2 hF2 => ?_
  refine wpRegion ?_
  refine seqQ rfl rfl (yMove (v := .slice _ _ _) rfl rfl) ?_
  refine seqQ rfl rfl (yMove (v := .slice _ _ _) rfl rfl) ?_
  -- e slot 7: call F58<slices.Equal[farandole/vclock.Clock,int]> t5 t6
  refine seqE rfl rfl (stepCall rfl Try.call58 rfl ?_)
  refine (sEqual_c A B ca cb a b H hA hB ha hb).mono ?_
  rintro v H1 ⟨rfl, rfl⟩
  refine seqQ rfl rfl (yAssign (v := .bool _) rfl rfl) ?_
  refine seqNil ?_
  refine hF2 _ _ ?_; clear hF2
  -- ret
  refine wpRet (fin1 (v := .bool _) rfl rfl ?_)
  exact ⟨rfl, rfl⟩

def beforeB (a b : List Int) : Bool := decide (a.length = b.length) && !decide (a = b) && leB a b
set_option maxRecDepth 100000 in
theorem before_c (A B : Option Addr) (ca cb : Nat) (a b : List Int) (H : Heap) (hA : Rd eInt H A a) (hB : Rd eInt H B b) (ha : a.length ≤ 1000000000) (hb : b.length ≤ 1000000000) :
    CallsH Try.prog 29 [.slice A a.length ca, .slice B b.length cb] H fun v H' => v = .bool (beforeB a b) ∧ H' = H := by
  refine callsH_of Try.func29 rfl Try.ntmps29 (Nat.le_of_ble_eq_true rfl) ?_
  refine wpSeq fun F1 hF1 => ?_
  refine wpRegion ?_
  refine seqQ rfl rfl (yAssign (v := .bool _) rfl rfl) ?_
  refine seqNil ?_
  refine hF1 _ _ ?_; clear hF1
  refine wpSeq fun F2 hF2 => ?_
  refine wpRegion ?_
  refine seqQ rfl rfl (yMove (v := .slice _ _ _) rfl rfl) ?_
  refine seqQ rfl rfl (yLen rfl Try.underlying44 rfl) ?_
  refine seqQ rfl rfl (yMove (v := .slice _ _ _) rfl rfl) ?_
  refine seqQ rfl rfl (yLen rfl Try.underlying44 rfl) ?_
  refine seqQ rfl rfl (yEql rfl rfl rfl) ?_
  -- guard t10
  refine seqG rfl rfl rfl rfl (fun hl => ?_) (fun hl => ?_)
  · skip
    have hl' : a.length = b.length := by omega
    refine seqQ rfl rfl (yMove (v := .slice _ _ _) rfl rfl) ?_
    refine seqQ rfl rfl (yMove (v := .slice _ _ _) rfl rfl) ?_
    -- e slot 13: call F58<slices.Equal[farandole/vclock.Clock,int]> t11 t12
    refine seqE rfl rfl (stepCall rfl Try.call58 rfl ?_)
    refine (sEqual_c A B ca cb a b H hA hB ha hb).mono ?_
    rintro v H1 ⟨rfl, rfl⟩
    refine seqQ rfl rfl (yNot rfl rfl) ?_
    refine seqQ rfl rfl (yPickT (v := .bool _) rfl rfl rfl) ?_
    -- guard t16
    refine seqGB rfl rfl rfl rfl (fun he => ?_) (fun he => ?_)
    · skip
      have he : ¬ a = b := by simpa using he
      refine seqQ rfl rfl (yMove (v := .slice _ _ _) rfl rfl) ?_
      refine seqQ rfl rfl (yMove (v := .slice _ _ _) rfl rfl) ?_
      -- e slot 19: call F59<farandole/vclock.atMost> t17 t18
      refine seqE rfl rfl (stepCall rfl Try.call59 rfl ?_)
      refine (atMost_c A B ca cb a b H1 hA hB hl' ha).mono ?_
      rintro v H2 ⟨rfl, rfl⟩
      refine seqQ rfl rfl (yPickT (v := .bool _) rfl rfl rfl) ?_
      refine seqQ rfl rfl (yAssign (v := .bool _) rfl rfl) ?_
      refine seqNil ?_
      refine hF2 _ _ ?_; clear hF2
      -- ret
      refine wpRet (fin1 (v := .bool _) rfl rfl ?_)
      exact ⟨by simp [beforeB, hl', he], rfl⟩
    · skip
      have he : a = b := by simpa using he
      refine seqU rfl rfl ?_
      refine seqU rfl rfl ?_
      refine seqU rfl rfl ?_
      refine seqQ rfl rfl (yPickF (v := .bool _) rfl rfl rfl) ?_
      refine seqQ rfl rfl (yAssign (v := .bool _) rfl rfl) ?_
      refine seqNil ?_
      refine hF2 _ _ ?_; clear hF2
      -- ret
      refine wpRet (fin1 (v := .bool _) rfl rfl ?_)
      exact ⟨by simp [beforeB, he], rfl⟩
  · skip
    refine seqU rfl rfl ?_
    refine seqU rfl rfl ?_
    refine seqU rfl rfl ?_
    refine seqU rfl rfl ?_
    refine seqQ rfl rfl (yPickF (v := .bool _) rfl rfl rfl) ?_
    refine seqQ rfl rfl (yMove (v := .bool false) rfl rfl) ?_
    refine seqU rfl rfl ?_
    refine seqU rfl rfl ?_
    refine seqU rfl rfl ?_
    refine seqQ rfl rfl (yPickF (v := .bool _) rfl rfl rfl) ?_
    refine seqQ rfl rfl (yAssign (v := .bool _) rfl rfl) ?_
    refine seqNil ?_
    refine hF2 _ _ ?_; clear hF2
    -- ret
    refine wpRet (fin1 (v := .bool _) rfl rfl ?_)
    exact ⟨by simp [beforeB]; omega, rfl⟩

def concB (a b : List Int) : Bool := decide (a.length = b.length) && !leB a b && !leB b a
set_option maxRecDepth 100000 in
theorem clone_c (A : Option Addr) (c : Nat) (l : List Int) (H : Heap) (hA : Rd eInt H A l) (hl : l.length ≤ 1000000000) :
    CallsH Try.prog 72 [.slice A l.length c] H fun v H' => Own eInt 3 H' H.size v l ∧ Ext H H' := by
  refine callsH_of Try.func72 rfl Try.ntmps72 (Nat.le_of_ble_eq_true rfl) ?_
  refine wpSeq fun F1 hF1 => ?_
  refine wpRegion ?_
  refine seqQ rfl rfl (yAssign (v := .slice _ _ _) rfl rfl) ?_
  refine seqNil ?_
  refine hF1 _ _ ?_; clear hF1
  refine wpSeq fun F2 hF2 => ?_
  refine wpSeq fun F3 hF3 => ?_
  refine wpRegion ?_
  refine seqQ rfl rfl (yMove (v := .slice _ _ _) rfl rfl) ?_
  refine seqQ rfl rfl (yEqlNil rfl Try.underlying44 rfl rfl) ?_
  refine seqNil ?_
  refine hF3 _ _ ?_; clear hF3
  -- if t4
  refine wpCond rfl (fun hn => ?_) (fun hn => ?_)
  · skip
    obtain rfl : A = none := by simpa using hn
    have : l = [] := by
      cases l with
      | nil => rfl
      | cons x l => obtain ⟨p, e, _⟩ := hA (by simp); cases e
    subst this
    refine wpSeq fun F4 hF4 => ?_
    refine wpRegion ?_
    refine seqQ rfl rfl (yAssign (v := .slice _ _ _) rfl rfl) ?_
    refine seqNil ?_
    refine hF4 _ _ ?_; clear hF4
    -- ret
    refine wpRet (fin1 (v := .slice _ _ _) rfl rfl ?_)
    exact ⟨Own.nil _ _, Ext.refl _⟩
  · skip
    refine wpSkip ?_
    refine hF2 _ _ ?_; clear hF2
    refine wpSeq fun F5 hF5 => ?_
    refine wpRegion ?_
    refine seqN rfl rfl (nBuildSlice (vs := []) rfl Try.underlying44 Try.sizeOf3 Try.zeroValue3 rfl rfl rfl rfl) (fun g5 H5 hx5 hB5 hg5 hl5 => ?_)
    refine seqQ rfl rfl (yMove (v := .slice _ _ _) rfl rfl) ?_
    -- e slot 7: builtin append t5 t6 : [44, 44]
    refine seqE rfl rfl (stepApp (c := eInt) (Own.lit (c := eInt) (l := []) (base := H.size) hB5 hg5 (by simp)) rfl Try.underlying44 elem_eInt rfl (by omega) rfl rfl rfl (hA.ext hx5) (by simp; omega) hx5.size ?_)
    intro v H1 hown hgrew
    obtain ⟨A2, c2, rfl, -⟩ := hown.form
    refine seqQ rfl rfl (yAssign (v := .slice _ _ _) rfl rfl) ?_
    refine seqNil ?_
    refine hF5 _ _ ?_; clear hF5
    -- ret
    refine wpRet (fin1 (v := .slice _ _ _) rfl rfl ?_)
    exact ⟨by simpa using hown, hgrew.ext hx5 (by rintro g e; obtain rfl := Option.some.inj e; exact hg5)⟩

/-- A clock behind an event: the error and the clock. -/
def tickF (c : List Int) (r : Int) : Int × List Int :=
  if okC c = false then (1, []) else if r < 0 ∨ (c.length : Int) ≤ r then (12, []) else if c.getD r.toNat 0 = 1099511627776 then (6, []) else (0, c.set r.toNat (c.getD r.toNat 0 + 1))
set_option maxRecDepth 100000 in
theorem tick_c (A : Option Addr) (ca : Nat) (c : List Int) (r : Int) (H : Heap) (hA : Rd eInt H A c) (hm : c.length ≤ 1000000000) :
    CallsH Try.prog 36 [.slice A c.length ca, .int .i64 r] H fun v H' => Ext H H' ∧ ∃ s, v = .tuple #[s, .int .i64 (tickF c r).1] ∧ Own eInt 3 H' H.size s (tickF c r).2 := by
  refine callsH_of Try.func36 rfl Try.ntmps36 (Nat.le_of_ble_eq_true rfl) ?_
  refine wpSeq fun F1 hF1 => ?_
  refine wpRegion ?_
  refine seqQ rfl rfl (yAssign (v := .slice _ _ _) rfl rfl) ?_
  refine seqQ rfl rfl (yAssign (v := .int _ _) rfl rfl) ?_
  refine seqNil ?_
  refine hF1 _ _ ?_; clear hF1
  refine wpSeq fun F2 hF2 => ?_
  refine wpBlock ?_
  refine wpSeq fun F3 hF3 => ?_
  refine wpRegion ?_
  refine seqQ rfl rfl (yMove (v := .slice _ _ _) rfl rfl) ?_
  -- e slot 9: call F45<farandole/vclock.Valid> t8
  refine seqE rfl rfl (stepCall rfl Try.call45 rfl ?_)
  refine (valid_c A ca c H hA hm).mono ?_
  rintro v H1 ⟨rfl, rfl⟩
  refine seqQ rfl rfl (yNot rfl rfl) ?_
  refine seqQ rfl rfl (yAssign (v := .bool _) rfl rfl) ?_
  refine seqNil ?_
  refine hF3 _ _ ?_; clear hF3
  -- if t7
  refine wpCond rfl (fun hv => ?_) (fun hv => ?_)
  · skip
    have hv : okC c = false := by simpa using hv
    refine wpSeq fun F4 hF4 => ?_
    refine wpRegion ?_
    refine seqQ rfl rfl (yAssign (v := .slice _ _ _) rfl rfl) ?_
    refine seqQ rfl rfl (yAssign (v := .int _ _) rfl rfl) ?_
    refine seqNil ?_
    refine hF4 _ _ ?_; clear hF4
    -- ret
    refine wpRet (fin2 (v := .slice _ _ _) (v' := .int _ _) rfl rfl rfl ?_)
    exact ⟨Ext.refl _, _, by unfold tickF; rw [if_pos hv], by unfold tickF; rw [if_pos hv]; exact Own.nil _ _⟩
  · skip
    have hv : okC c = true := by simpa using hv
    have hv' : ¬ okC c = false := by rw [hv]; simp
    obtain ⟨o1, o2, o3, o4⟩ := okC_of hv
    refine wpSeq fun F5 hF5 => ?_
    refine wpRegion ?_
    refine seqQ rfl rfl (yMove (v := .int _ _) rfl rfl) ?_
    refine seqQ rfl rfl (yLss rfl rfl rfl) ?_
    -- guard t14
    refine seqG rfl rfl rfl rfl (fun hr0 => ?_) (fun hr0 => ?_)
    · skip
      have e : tickF c r = (12, []) := by unfold tickF; rw [if_neg hv', if_pos (.inl hr0)]
      refine seqU rfl rfl ?_
      refine seqU rfl rfl ?_
      refine seqU rfl rfl ?_
      refine seqU rfl rfl ?_
      refine seqQ rfl rfl (yPickT (v := .bool _) rfl rfl rfl) ?_
      refine seqQ rfl rfl (yAssign (v := .bool _) rfl rfl) ?_
      refine seqNil ?_
      refine hF5 _ _ ?_; clear hF5
      -- if t11
      refine wpT rfl ?_
      refine wpSeq fun F6 hF6 => ?_
      refine wpRegion ?_
      refine seqQ rfl rfl (yAssign (v := .slice _ _ _) rfl rfl) ?_
      refine seqQ rfl rfl (yAssign (v := .int _ _) rfl rfl) ?_
      refine seqNil ?_
      refine hF6 _ _ ?_; clear hF6
      -- ret
      refine wpRet (fin2 (v := .slice _ _ _) (v' := .int _ _) rfl rfl rfl ?_)
      exact ⟨Ext.refl _, _, by rw [e], by rw [e]; exact Own.nil _ _⟩
    · skip
      refine seqQ rfl rfl (yMove (v := .int _ _) rfl rfl) ?_
      refine seqQ rfl rfl (yMove (v := .slice _ _ _) rfl rfl) ?_
      refine seqQ rfl rfl (yLen rfl Try.underlying44 rfl) ?_
      refine seqQ rfl rfl (yGeq rfl rfl rfl) ?_
      refine seqQ rfl rfl (yPickF (v := .bool _) rfl rfl rfl) ?_
      refine seqQ rfl rfl (yAssign (v := .bool _) rfl rfl) ?_
      refine seqNil ?_
      refine hF5 _ _ ?_; clear hF5
      -- if t11
      refine wpCond rfl (fun hr1 => ?_) (fun hr1 => ?_)
      · skip
        have hr1 : (c.length : Int) ≤ r := by simpa using hr1
        have e : tickF c r = (12, []) := by unfold tickF; rw [if_neg hv', if_pos (.inr hr1)]
        refine wpSeq fun F7 hF7 => ?_
        refine wpRegion ?_
        refine seqQ rfl rfl (yAssign (v := .slice _ _ _) rfl rfl) ?_
        refine seqQ rfl rfl (yAssign (v := .int _ _) rfl rfl) ?_
        refine seqNil ?_
        refine hF7 _ _ ?_; clear hF7
        -- ret
        refine wpRet (fin2 (v := .slice _ _ _) (v' := .int _ _) rfl rfl rfl ?_)
        exact ⟨Ext.refl _, _, by rw [e], by rw [e]; exact Own.nil _ _⟩
      · skip
        have hr1 : r < (c.length : Int) := by simpa using hr1
        obtain ⟨k, rfl⟩ := Int.eq_ofNat_of_zero_le (show 0 ≤ r by omega)
        have hk : k < c.length := by omega
        obtain ⟨p, rfl, hp⟩ := hA.at1 hk
        have hg : c.getD (Int.toNat k) 0 = c[k] := by simp [hk]
        have hb := o4 c[k] (List.getElem_mem hk)
        have hb0 := o3 c[k] (List.getElem_mem hk)
        refine wpSeq fun F8 hF8 => ?_
        refine wpRegion ?_
        refine seqQ rfl rfl (yMove (v := .slice _ _ _) rfl rfl) ?_
        refine seqQ rfl rfl (yMove (v := .int _ _) rfl rfl) ?_
        refine seqQ rfl rfl (yIdx1 rfl Try.underlying44 Try.sizeOf3 rfl rfl rfl (by omega)) ?_
        refine seqQ rfl rfl (yLoad rfl Try.underlying3 rfl rfl hp) ?_
        refine seqQ rfl rfl (yEql rfl rfl rfl) ?_
        refine seqQ rfl rfl (yAssign (v := .bool _) rfl rfl) ?_
        refine seqNil ?_
        refine hF8 _ _ ?_; clear hF8
        -- if t20
        refine wpIf rfl (fun hmax => ?_) (fun hmax => ?_)
        · skip
          have e : tickF c k = (6, []) := by unfold tickF; rw [if_neg hv', if_neg (by omega), if_pos (by rw [hg]; exact hmax)]
          refine wpSeq fun F9 hF9 => ?_
          refine wpRegion ?_
          refine seqQ rfl rfl (yAssign (v := .slice _ _ _) rfl rfl) ?_
          refine seqQ rfl rfl (yAssign (v := .int _ _) rfl rfl) ?_
          refine seqNil ?_
          refine hF9 _ _ ?_; clear hF9
          -- ret
          refine wpRet (fin2 (v := .slice _ _ _) (v' := .int _ _) rfl rfl rfl ?_)
          exact ⟨Ext.refl _, _, by rw [e], by rw [e]; exact Own.nil _ _⟩
        · skip
          have e : tickF c k = (0, c.set k (c[k] + 1)) := by unfold tickF; rw [if_neg hv', if_neg (by omega), if_neg (by rw [hg]; exact hmax), hg]; rfl
          refine wpSkip ?_
          refine hF2 _ _ ?_; clear hF2
          refine wpSeq fun F10 hF10 => ?_
          refine wpRegion ?_
          refine seqQ rfl rfl (yMove (v := .slice _ _ _) rfl rfl) ?_
          -- e slot 27: call F72<slices.Clone[farandole/vclock.Clock,int]> t26
          refine seqE rfl rfl (stepCall rfl Try.call72 rfl ?_)
          refine (clone_c _ ca c H1 hA hm).mono ?_
          rintro v H2 ⟨hown, hx⟩
          obtain ⟨A2, c2, rfl, -, hrd, hA2⟩ := hown.form
          obtain ⟨q, rfl, hq⟩ := hrd.at1 hk
          refine seqQ rfl rfl (yAssign (v := .slice _ _ _) rfl rfl) ?_
          refine seqNil ?_
          refine hF10 _ _ ?_; clear hF10
          refine wpSeq fun F11 hF11 => ?_
          refine wpRegion ?_
          refine seqQ rfl rfl (yMove (v := .slice _ _ _) rfl rfl) ?_
          refine seqQ rfl rfl (yMove (v := .int _ _) rfl rfl) ?_
          refine seqQ rfl rfl (yIdx1 rfl Try.underlying44 Try.sizeOf3 rfl rfl rfl (by omega)) ?_
          refine seqQ rfl rfl (yLoad rfl Try.underlying3 rfl rfl hq) ?_
          refine seqQ rfl rfl (yAdd rfl rfl rfl (by unfold In64; omega)) ?_
          refine seqQ rfl rfl (yIdx1 rfl Try.underlying44 Try.sizeOf3 rfl rfl rfl (by omega)) ?_
          -- e slot None: store T3 t33 t32
          refine seqE0 rfl rfl (stepStoreOwn hown rfl Try.sizeOf3 rfl rfl rfl rfl hk ?_)
          intro H3 hown3 hkeep
          refine seqNil ?_
          refine hF11 _ _ ?_; clear hF11
          refine wpSeq fun F12 hF12 => ?_
          refine wpRegion ?_
          refine seqQ rfl rfl (yMove (v := .slice _ _ _) rfl rfl) ?_
          refine seqQ rfl rfl (yAssign (v := .slice _ _ _) rfl rfl) ?_
          refine seqQ rfl rfl (yAssign (v := .int _ _) rfl rfl) ?_
          refine seqNil ?_
          refine hF12 _ _ ?_; clear hF12
          -- ret
          refine wpRet (fin2 (v := .slice _ _ _) (v' := .int _ _) rfl rfl rfl ?_)
          refine ⟨hx.mine hkeep (by simp; exact (hA2 _ rfl).1), _, by rw [e], by rw [e]; exact hown3⟩

/-- The least clock above two: the error and the clock. -/
def joinF (a b : List Int) : Int × List Int := if okC a = true ∧ okC b = true ∧ a.length = b.length then (0, List.zipWith max a b) else (1, [])
set_option maxRecDepth 100000 in
theorem joinF_bad {a b : List Int} (h : ¬ (okC a = true ∧ okC b = true ∧ a.length = b.length)) : joinF a b = (1, []) := if_neg h
set_option maxRecDepth 100000 in
theorem joinF_ok {a b : List Int} (h : okC a = true ∧ okC b = true ∧ a.length = b.length) : joinF a b = (0, List.zipWith max a b) := if_pos h
set_option maxRecDepth 100000 in
theorem zip_set {a b : List Int} {k : Nat} (ha : k < a.length) (hb : k < b.length) :
    ((List.zipWith max a b).take k ++ List.replicate (a.length - k) 0).set k (max a[k] b[k]) = (List.zipWith max a b).take (k + 1) ++ List.replicate (a.length - (k + 1)) 0 := by
  have hk : k < (List.zipWith max a b).length := by rw [List.length_zipWith]; omega
  have hl : ((List.zipWith max a b).take k).length = k := by rw [List.length_take]; omega
  rw [List.set_append_right _ _ (by omega), hl, Nat.sub_self, take_next hk]
  have : a.length - k = (a.length - (k + 1)) + 1 := by omega
  rw [this, List.replicate_succ, List.set_cons_zero]
  simp
set_option maxRecDepth 100000 in
theorem join_c (A B : Option Addr) (ca cb : Nat) (a b : List Int) (H : Heap) (hA : Rd eInt H A a) (hB : Rd eInt H B b) (ha : a.length ≤ 1000000000) (hb : b.length ≤ 1000000000) :
    CallsH Try.prog 73 [.slice A a.length ca, .slice B b.length cb] H fun v H' => Ext H H' ∧ ∃ s, v = .tuple #[s, .int .i64 (joinF a b).1] ∧ Own eInt 3 H' H.size s (joinF a b).2 := by
  refine callsH_of Try.func73 rfl Try.ntmps73 (Nat.le_of_ble_eq_true rfl) ?_
  refine wpSeq fun F1 hF1 => ?_
  refine wpRegion ?_
  refine seqQ rfl rfl (yAssign (v := .slice _ _ _) rfl rfl) ?_
  refine seqQ rfl rfl (yAssign (v := .int _ _) rfl rfl) ?_
  refine seqNil ?_
  refine hF1 _ _ ?_; clear hF1
  refine wpSeq fun F2 hF2 => ?_
  refine wpSeq fun F3 hF3 => ?_
  refine wpRegion ?_
  refine seqQ rfl rfl (yMove (v := .slice _ _ _) rfl rfl) ?_
  -- e slot 9: call F45<farandole/vclock.Valid> t8
  refine seqE rfl rfl (stepCall rfl Try.call45 rfl ?_)
  refine (valid_c A ca a H hA ha).mono ?_
  rintro v H1 ⟨rfl, rfl⟩
  refine seqQ rfl rfl (yNot rfl rfl) ?_
  -- guard t11
  refine seqGB rfl rfl rfl rfl (fun hv => ?_) (fun hv => ?_)
  · skip
    have hv : okC a = false := by simpa using hv
    have e := joinF_bad (a := a) (b := b) (fun h => by rw [hv] at h; simp at h)
    refine seqU rfl rfl ?_
    refine seqU rfl rfl ?_
    refine seqU rfl rfl ?_
    refine seqQ rfl rfl (yPickT (v := .bool _) rfl rfl rfl) ?_
    refine seqQ rfl rfl (yMove (v := .bool true) rfl rfl) ?_
    refine seqU rfl rfl ?_
    refine seqU rfl rfl ?_
    refine seqU rfl rfl ?_
    refine seqU rfl rfl ?_
    refine seqU rfl rfl ?_
    refine seqQ rfl rfl (yPickT (v := .bool _) rfl rfl rfl) ?_
    refine seqNil ?_
    refine hF3 _ _ ?_; clear hF3
    -- if t22
    refine wpT rfl ?_
    refine wpSeq fun F4 hF4 => ?_
    refine wpRegion ?_
    refine seqQ rfl rfl (yAssign (v := .slice _ _ _) rfl rfl) ?_
    refine seqQ rfl rfl (yAssign (v := .int _ _) rfl rfl) ?_
    refine seqNil ?_
    refine hF4 _ _ ?_; clear hF4
    -- ret
    refine wpRet (fin2 (v := .slice _ _ _) (v' := .int _ _) rfl rfl rfl ?_)
    exact ⟨Ext.refl _, _, by rw [e], by rw [e]; exact Own.nil _ _⟩
  · skip
    have hv : okC a = true := by simpa using hv
    refine seqQ rfl rfl (yMove (v := .slice _ _ _) rfl rfl) ?_
    -- e slot 13: call F45<farandole/vclock.Valid> t12
    refine seqE rfl rfl (stepCall rfl Try.call45 rfl ?_)
    refine (valid_c B cb b H1 hB hb).mono ?_
    rintro v H2 ⟨rfl, rfl⟩
    refine seqQ rfl rfl (yNot rfl rfl) ?_
    refine seqQ rfl rfl (yPickF (v := .bool _) rfl rfl rfl) ?_
    -- guard t16
    refine seqGB rfl rfl rfl rfl (fun hw => ?_) (fun hw => ?_)
    · skip
      have hw : okC b = false := by simpa using hw
      have e := joinF_bad (a := a) (b := b) (fun h => by rw [hw] at h; simp at h)
      refine seqU rfl rfl ?_
      refine seqU rfl rfl ?_
      refine seqU rfl rfl ?_
      refine seqU rfl rfl ?_
      refine seqU rfl rfl ?_
      refine seqQ rfl rfl (yPickT (v := .bool _) rfl rfl rfl) ?_
      refine seqNil ?_
      refine hF3 _ _ ?_; clear hF3
      -- if t22
      refine wpT rfl ?_
      refine wpSeq fun F5 hF5 => ?_
      refine wpRegion ?_
      refine seqQ rfl rfl (yAssign (v := .slice _ _ _) rfl rfl) ?_
      refine seqQ rfl rfl (yAssign (v := .int _ _) rfl rfl) ?_
      refine seqNil ?_
      refine hF5 _ _ ?_; clear hF5
      -- ret
      refine wpRet (fin2 (v := .slice _ _ _) (v' := .int _ _) rfl rfl rfl ?_)
      exact ⟨Ext.refl _, _, by rw [e], by rw [e]; exact Own.nil _ _⟩
    · skip
      have hw : okC b = true := by simpa using hw
      refine seqQ rfl rfl (yMove (v := .slice _ _ _) rfl rfl) ?_
      refine seqQ rfl rfl (yLen rfl Try.underlying44 rfl) ?_
      refine seqQ rfl rfl (yMove (v := .slice _ _ _) rfl rfl) ?_
      refine seqQ rfl rfl (yLen rfl Try.underlying44 rfl) ?_
      refine seqQ rfl rfl (yNeq rfl rfl rfl) ?_
      refine seqQ rfl rfl (yPickF (v := .bool _) rfl rfl rfl) ?_
      refine seqNil ?_
      refine hF3 _ _ ?_; clear hF3
      -- if t22
      refine wpCond rfl (fun hl => ?_) (fun hl => ?_)
      · skip
        have hl : ¬ a.length = b.length := by simp at hl; omega
        have e := joinF_bad (a := a) (b := b) (fun h => hl h.2.2)
        refine wpSeq fun F6 hF6 => ?_
        refine wpRegion ?_
        refine seqQ rfl rfl (yAssign (v := .slice _ _ _) rfl rfl) ?_
        refine seqQ rfl rfl (yAssign (v := .int _ _) rfl rfl) ?_
        refine seqNil ?_
        refine hF6 _ _ ?_; clear hF6
        -- ret
        refine wpRet (fin2 (v := .slice _ _ _) (v' := .int _ _) rfl rfl rfl ?_)
        exact ⟨Ext.refl _, _, by rw [e], by rw [e]; exact Own.nil _ _⟩
      · skip
        have hl : a.length = b.length := by simp at hl; omega
        have e := joinF_ok (a := a) (b := b) ⟨hv, hw, hl⟩
        refine wpSkip ?_
        refine hF2 _ _ ?_; clear hF2
        refine wpSeq fun F7 hF7 => ?_
        refine wpRegion ?_
        refine seqQ rfl rfl (yMove (v := .slice _ _ _) rfl rfl) ?_
        refine seqQ rfl rfl (yLen rfl Try.underlying44 rfl) ?_
        -- e slot 25: makeSlice T44 t24 t24
        refine seqE rfl rfl (stepMake (c := eInt) (z := 0) rfl Try.underlying44 elem_eInt rfl (by omega) rfl rfl rfl (by omega) ?_)
        intro g H3 hx3 hg3 hown
        refine seqQ rfl rfl (yAssign (v := .slice _ _ _) rfl rfl) ?_
        refine seqNil ?_
        refine hF7 _ _ ?_; clear hF7
        refine wpSeq fun F8 hF8 => ?_
        refine wpSeq fun F9 hF9 => ?_
        refine wpRegion ?_
        refine seqQ rfl rfl (yMove (v := .slice _ _ _) rfl rfl) ?_
        refine seqQ rfl rfl (yLen rfl Try.underlying44 rfl) ?_
        refine seqQ rfl rfl (yMove (v := .int _ _) rfl rfl) ?_
        refine seqNil ?_
        refine hF9 _ _ ?_; clear hF9
        -- loop
        refine wpBlock ?_
        refine wpLoopS [7, 28, 29, 30, 31, 32, 33, 34, 35, 36, 37, 38, 39, 40, 41, 42, 43] (fun k : Nat => [(28, .int .i64 k)]) (fun k H' => k ≤ a.length ∧ Ext H2 H' ∧ Own eInt 3 H' H2.size (.slice (some ⟨g, 0, none⟩) a.length a.length) ((List.zipWith max a b).take k ++ List.replicate (a.length - k) 0)) (fun k => a.length - k) 0 ⟨rfl, trivial⟩ ⟨Nat.zero_le _, hx3, hown⟩ ?_
        rintro k J H' ⟨hk, hx, hown⟩
        refine wpSeq fun F10 hF10 => ?_
        refine wpRegion ?_
        refine seqQ rfl rfl (yLss rfl rfl rfl) ?_
        refine seqNil ?_
        refine hF10 _ _ ?_; clear hF10
        refine wpSeq fun F11 hF11 => ?_
        -- if t29
        refine wpIf rfl (fun hlt => ?_) (fun hlt => ?_)
        · skip
          have hka : k < a.length := by omega
          have hkb : k < b.length := by omega
          obtain ⟨p, rfl, hp⟩ := (hA.ext hx).at1 hka
          obtain ⟨q, rfl, hq⟩ := (hB.ext hx).at1 hkb
          refine wpSkip ?_
          refine hF11 _ _ ?_; clear hF11
          refine wpSeq fun F12 hF12 => ?_
          refine wpBlock ?_
          refine wpSeq fun F13 hF13 => ?_
          refine wpRegion ?_
          refine seqQ rfl rfl (yMove (v := .int _ _) rfl rfl) ?_
          refine seqQ rfl rfl (yAssign (v := .int _ _) rfl rfl) ?_
          refine seqNil ?_
          refine hF13 _ _ ?_; clear hF13
          refine wpRegionD Try_mixed [.q, .q, .q, .q, .q, .q, .q, .q, .q, .q, .q, .q, .e] 11 [0, 0, 0, 0, 12, 28, 0, 0, 192, 448, 1020, 2047, 4095] [] (by kernel_rfl) _ rfl [0, 1, 2, 3, 4, 5, 6, 7, 8, 9, 10] rfl (by simp) ?_
          refine lexQ rfl rfl rfl rfl (fun H hM => (yMove (v := .slice _ _ _) rfl rfl)) ?_
          refine lexQ rfl rfl rfl rfl (fun H hM => (yMove (v := .int _ _) rfl rfl)) ?_
          refine lexQ rfl rfl rfl rfl (fun H hM => (yMove (v := .slice _ _ _) rfl rfl)) ?_
          refine lexQ rfl rfl rfl rfl (fun H hM => (yMove (v := .int _ _) rfl rfl)) ?_
          refine lexQ rfl rfl rfl rfl (fun H hM => (yIdx1 rfl Try.underlying44 Try.sizeOf3 rfl rfl rfl (by omega))) ?_
          refine lexQ rfl rfl rfl rfl (fun H hM => (yLoad rfl Try.underlying3 rfl rfl (hM.ext.cell hp))) ?_
          refine lexQ rfl rfl rfl rfl (fun H hM => (yMove (v := .slice _ _ _) rfl rfl)) ?_
          refine lexQ rfl rfl rfl rfl (fun H hM => (yMove (v := .int _ _) rfl rfl)) ?_
          refine lexQ rfl rfl rfl rfl (fun H hM => (yIdx1 rfl Try.underlying44 Try.sizeOf3 rfl rfl rfl (by omega))) ?_
          refine lexQ rfl rfl rfl rfl (fun H hM => (yLoad rfl Try.underlying3 rfl rfl (hM.ext.cell hq))) ?_
          refine lexQ rfl rfl rfl rfl (fun H hM => (yMax rfl rfl rfl)) ?_
          -- tail
          refine lexNil0 rfl (fun hM => ?_)
          refine seqQ rfl rfl (yIdx1 rfl Try.underlying44 Try.sizeOf3 rfl rfl rfl (by omega)) ?_
          -- e slot None: store T3 t42 t41
          refine seqE0 rfl rfl (stepStoreOwn hown rfl Try.sizeOf3 rfl rfl rfl rfl (by simp; omega) ?_)
          intro H4 hown4 hkeep
          rw [zip_set hka hkb] at hown4
          refine seqNil ?_
          refine hF12 _ _ ?_; clear hF12
          refine wpRegion ?_
          refine seqQ rfl rfl (yAdd rfl rfl rfl (by unfold In64; omega)) ?_
          refine seqQ rfl rfl (yMove (v := .int _ _) rfl rfl) ?_
          refine seqNil ?_
          -- end loop
          exact loopEnd (k + 1) (by repeat (first | (with_reducible exact Agree.refl _ _) | refine Agree.upd ?_ rfl | refine Agree.over ?_ rfl)) (by omega) ⟨rfl, trivial⟩ ⟨by omega, hx.mine hkeep (by simp; exact hg3), hown4⟩
        · skip
          have hk : k = a.length := by omega
          subst hk
          rw [List.take_of_length_le (by rw [List.length_zipWith]; omega), Nat.sub_self, List.replicate_zero, List.append_nil] at hown
          refine wpExit ?_
          refine hF8 _ _ ?_; clear hF8
          refine wpSeq fun F14 hF14 => ?_
          refine wpRegion ?_
          refine seqQ rfl rfl (yMove (v := .slice _ _ _) rfl rfl) ?_
          refine seqQ rfl rfl (yAssign (v := .slice _ _ _) rfl rfl) ?_
          refine seqQ rfl rfl (yAssign (v := .int _ _) rfl rfl) ?_
          refine seqNil ?_
          refine hF14 _ _ ?_; clear hF14
          -- ret
          refine wpRet (fin2 (v := .slice _ _ _) (v' := .int _ _) rfl rfl rfl ?_)
          exact ⟨hx, _, by rw [e], by rw [e]; exact hown⟩

set_option maxRecDepth 100000 in
theorem okC_len {c : List Int} (h : c.length ≤ 6) : c.length ≤ 1000000000 := by omega
def receiveF (c m : List Int) (r : Int) : Int × List Int := if (joinF c m).1 = 0 then tickF (joinF c m).2 r else ((joinF c m).1, [])
set_option maxRecDepth 100000 in
theorem joinF_len (a b : List Int) : (joinF a b).2.length ≤ 6 := by
  unfold joinF
  split
  · rename_i h
    have := okC_of h.1
    rw [List.length_zipWith]
    omega
  · simp
set_option maxRecDepth 100000 in
theorem receive_c (A B : Option Addr) (ca cb : Nat) (a b : List Int) (r : Int) (H : Heap) (hA : Rd eInt H A a) (hB : Rd eInt H B b) (ha : a.length ≤ 1000000000) (hb : b.length ≤ 1000000000) :
    CallsH Try.prog 43 [.slice A a.length ca, .slice B b.length cb, .int .i64 r] H fun v H' => Ext H H' ∧ ∃ s, v = .tuple #[s, .int .i64 (receiveF a b r).1] ∧ Own eInt 3 H' H.size s (receiveF a b r).2 := by
  refine callsH_of Try.func43 rfl Try.ntmps43 (Nat.le_of_ble_eq_true rfl) ?_
  refine wpSeq fun F1 hF1 => ?_
  refine wpRegion ?_
  refine seqQ rfl rfl (yAssign (v := .slice _ _ _) rfl rfl) ?_
  refine seqQ rfl rfl (yAssign (v := .int _ _) rfl rfl) ?_
  refine seqNil ?_
  refine hF1 _ _ ?_; clear hF1
  refine wpSeq fun F2 hF2 => ?_
  refine wpRegion ?_
  refine seqQ rfl rfl (yMove (v := .slice _ _ _) rfl rfl) ?_
  refine seqQ rfl rfl (yMove (v := .slice _ _ _) rfl rfl) ?_
  -- e slot 13: call F73<farandole/vclock.Join> t11 t12
  refine seqE rfl rfl (stepCall rfl Try.call73 rfl ?_)
  refine (join_c A B ca cb a b H hA hB ha hb).mono ?_
  rintro v H1 ⟨hx, s, rfl, hown⟩
  obtain ⟨A1, c1, rfl, -, hrd, -⟩ := hown.form
  refine seqQ rfl rfl (yMove (v := .tuple _) rfl rfl) ?_
  refine seqQ rfl rfl (yExtract (v := .slice _ _ _) rfl rfl rfl) ?_
  refine seqQ rfl rfl (yExtract (v := .int _ _) rfl rfl rfl) ?_
  refine seqQ rfl rfl (yAssign (v := .slice _ _ _) rfl rfl) ?_
  refine seqQ rfl rfl (yAssign (v := .int _ _) rfl rfl) ?_
  refine seqNil ?_
  refine hF2 _ _ ?_; clear hF2
  refine wpSeq fun F3 hF3 => ?_
  refine wpSeq fun F4 hF4 => ?_
  refine wpRegion ?_
  refine seqQ rfl rfl (yMove (v := .int _ _) rfl rfl) ?_
  refine seqQ rfl rfl (yNeq rfl rfl rfl) ?_
  refine seqNil ?_
  refine hF4 _ _ ?_; clear hF4
  -- if t17
  refine wpCond rfl (fun he => ?_) (fun he => ?_)
  · skip
    have he : ¬ (joinF a b).1 = 0 := by simpa using he
    have e : receiveF a b r = ((joinF a b).1, []) := if_neg he
    refine wpSeq fun F5 hF5 => ?_
    refine wpRegion ?_
    refine seqQ rfl rfl (yMove (v := .int _ _) rfl rfl) ?_
    refine seqQ rfl rfl (yAssign (v := .slice _ _ _) rfl rfl) ?_
    refine seqQ rfl rfl (yAssign (v := .int _ _) rfl rfl) ?_
    refine seqNil ?_
    refine hF5 _ _ ?_; clear hF5
    -- ret
    refine wpRet (fin2 (v := .slice _ _ _) (v' := .int _ _) rfl rfl rfl ?_)
    exact ⟨hx, _, by rw [e], by rw [e]; exact Own.nil _ _⟩
  · skip
    have he : (joinF a b).1 = 0 := by simpa using he
    have e : receiveF a b r = tickF (joinF a b).2 r := if_pos he
    refine wpSkip ?_
    refine hF3 _ _ ?_; clear hF3
    refine wpSeq fun F6 hF6 => ?_
    refine wpRegion ?_
    refine seqQ rfl rfl (yMove (v := .slice _ _ _) rfl rfl) ?_
    refine seqQ rfl rfl (yMove (v := .int _ _) rfl rfl) ?_
    -- e slot 21: call F36<farandole/vclock.Tick> t19 t20
    refine seqE rfl rfl (stepCall rfl Try.call36 rfl ?_)
    refine (tick_c A1 c1 _ r H1 hrd (okC_len (joinF_len a b))).mono ?_
    rintro v H2 ⟨hx2, s, rfl, hown2⟩
    obtain ⟨A2, c2, rfl, -⟩ := hown2.form
    refine seqQ rfl rfl (yExtract (v := .slice _ _ _) rfl rfl rfl) ?_
    refine seqQ rfl rfl (yExtract (v := .int _ _) rfl rfl rfl) ?_
    refine seqQ rfl rfl (yAssign (v := .slice _ _ _) rfl rfl) ?_
    refine seqQ rfl rfl (yAssign (v := .int _ _) rfl rfl) ?_
    refine seqNil ?_
    refine hF6 _ _ ?_; clear hF6
    -- ret
    refine wpRet (fin2 (v := .slice _ _ _) (v' := .int _ _) rfl rfl rfl ?_)
    exact ⟨hx.trans hx2, _, by rw [e], by rw [e]; exact hown2.mono hx.size⟩

end Go.Proofs.Ytbanngdijmglbaa
