/- Zones: Holds (both). -/
import Derived.Test.YtjkbkmbblidipaaZ10
namespace Go.Proofs.Ytjkbkmbblidipaa
open Go.RowKit

set_option maxRecDepth 100000 in
theorem num_pos (vs : List Int) {i : Nat} (h0 : ¬ i = 0) (h : i ≤ vs.length) : num vs i = vs[i - 1]'(by omega) := by
  unfold num
  rw [if_neg h0, List.getD_eq_getElem?_getD, List.getElem?_eq_getElem (by omega), Option.getD_some]
set_option maxRecDepth 100000 in
theorem hnum_c (i : Nat) (vs : List Int) (A : Option Addr) (cv g : Nat) (T : TypeId) (H : Heap) (hB : Blk H g [.slice A vs.length cv] T) (hA : Rd eInt H A vs) (hi : i ≤ vs.length) (hs : i ≤ 1000) :
    CallsH Try.prog 50 [.int .i64 i, .pointer (some ⟨g, 0, none⟩)] H fun v H' => v = .int .i64 (num vs i) ∧ H' = H := by
  refine callsH_of Try.func50 rfl Try.ntmps50 (Nat.le_of_ble_eq_true rfl) ?_
  refine wpSeq fun F1 hF1 => ?_
  refine wpRegion ?_
  refine seqQ rfl rfl (yAssign (v := .int _ _) rfl rfl) ?_
  refine seqNil ?_
  refine hF1 _ _ ?_; clear hF1
  refine wpSeq fun F2 hF2 => ?_
  refine wpSeq fun F3 hF3 => ?_
  refine wpRegion ?_
  refine seqQ rfl rfl (yMove (v := .int _ _) rfl rfl) ?_
  refine seqQ rfl rfl (yEql rfl rfl rfl) ?_
  refine seqNil ?_
  refine hF3 _ _ ?_; clear hF3
  -- if t5
  refine wpIf rfl (fun h0 => ?_) (fun h0 => ?_)
  · skip
    have h0 : i = 0 := by omega
    subst h0
    refine wpSeq fun F4 hF4 => ?_
    refine wpRegion ?_
    refine seqQ rfl rfl (yAssign (v := .int _ _) rfl rfl) ?_
    refine seqNil ?_
    refine hF4 _ _ ?_; clear hF4
    -- ret
    refine wpRet (fin1 (v := .int _ _) rfl rfl ?_)
    exact ⟨rfl, rfl⟩
  · skip
    have h0 : ¬ i = 0 := by omega
    obtain ⟨p, rfl, hp⟩ := hA.at1 (k := i - 1) (by omega)
    rw [← num_pos vs h0 hi] at hp
    refine wpSkip ?_
    refine hF2 _ _ ?_; clear hF2
    refine wpSeq fun F5 hF5 => ?_
    refine wpRegion ?_
    refine seqQ rfl rfl (yLoad rfl Try.underlying22 rfl rfl (hB.cell (j := 0) rfl)) ?_
    refine seqQ rfl rfl (yMove (v := .int _ _) rfl rfl) ?_
    refine seqQ rfl rfl (ySubE rfl rfl rfl (by unfold In64; omega) (show (i : Int) - 1 = ((i - 1 : Nat) : Int) by omega)) ?_
    refine seqQ rfl rfl (yIdx1 rfl Try.underlying22 Try.sizeOf3 rfl rfl rfl (by omega)) ?_
    refine seqQ rfl rfl (yLoad rfl Try.underlying3 rfl rfl hp) ?_
    refine seqQ rfl rfl (yAssign (v := .int _ _) rfl rfl) ?_
    refine seqNil ?_
    refine hF5 _ _ ?_; clear hF5
    -- ret
    refine wpRet (fin1 (v := .int _ _) rfl rfl ?_)
    exact ⟨rfl, rfl⟩
set_option maxRecDepth 100000 in
theorem rnum_c (i : Nat) (vs : List Int) (A : Option Addr) (cv : Nat) (H : Heap) (hA : Rd eInt H A vs) (hi : i ≤ vs.length) (hs : i ≤ 1000) :
    CallsH Try.prog 51 [.slice A vs.length cv, .int .i64 i] H fun v H' => v = .int .i64 (num vs i) ∧ H' = H := by
  refine callsH_of Try.func51 rfl Try.ntmps51 (Nat.le_of_ble_eq_true rfl) ?_
  refine wpSeq fun F1 hF1 => ?_
  refine wpRegion ?_
  refine seqQ rfl rfl (yAssign (v := .int _ _) rfl rfl) ?_
  refine seqNil ?_
  refine hF1 _ _ ?_; clear hF1
  refine wpSeq fun F2 hF2 => ?_
  refine wpSeq fun F3 hF3 => ?_
  refine wpRegion ?_
  refine seqQ rfl rfl (yMove (v := .int _ _) rfl rfl) ?_
  refine seqQ rfl rfl (yEql rfl rfl rfl) ?_
  refine seqNil ?_
  refine hF3 _ _ ?_; clear hF3
  -- if t6
  refine wpIf rfl (fun h0 => ?_) (fun h0 => ?_)
  · skip
    have h0 : i = 0 := by omega
    subst h0
    refine wpSeq fun F4 hF4 => ?_
    refine wpRegion ?_
    refine seqQ rfl rfl (yAssign (v := .int _ _) rfl rfl) ?_
    refine seqNil ?_
    refine hF4 _ _ ?_; clear hF4
    -- ret
    refine wpRet (fin1 (v := .int _ _) rfl rfl ?_)
    exact ⟨rfl, rfl⟩
  · skip
    have h0 : ¬ i = 0 := by omega
    obtain ⟨p, rfl, hp⟩ := hA.at1 (k := i - 1) (by omega)
    rw [← num_pos vs h0 hi] at hp
    refine wpSkip ?_
    refine hF2 _ _ ?_; clear hF2
    refine wpSeq fun F5 hF5 => ?_
    refine wpRegion ?_
    refine seqQ rfl rfl (yMove (v := .slice _ _ _) rfl rfl) ?_
    refine seqQ rfl rfl (yMove (v := .int _ _) rfl rfl) ?_
    refine seqQ rfl rfl (ySubE rfl rfl rfl (by unfold In64; omega) (show (i : Int) - 1 = ((i - 1 : Nat) : Int) by omega)) ?_
    refine seqQ rfl rfl (yIdx1 rfl Try.underlying22 Try.sizeOf3 rfl rfl rfl (by omega)) ?_
    refine seqQ rfl rfl (yLoad rfl Try.underlying3 rfl rfl hp) ?_
    refine seqQ rfl rfl (yAssign (v := .int _ _) rfl rfl) ?_
    refine seqNil ?_
    refine hF5 _ _ ?_; clear hF5
    -- ret
    refine wpRet (fin1 (v := .int _ _) rfl rfl ?_)
    exact ⟨rfl, rfl⟩
set_option maxRecDepth 100000 in
theorem holds_c (z : Zn) (vs : List Int) (A B : Option Addr) (ca cb : Nat) (H : Heap) (hA : Rd eInt H A z.b) (hB : Rd eInt H B vs) :
    CallsH Try.prog 31 [.agg (znC z A ca).toArray, .slice B vs.length cb] H fun v H' => v = .bool (decide (HoldsP z vs)) ∧ Ext H H' := by
  refine callsH_of Try.func31 rfl Try.ntmps31 (Nat.le_of_ble_eq_true rfl) ?_
  refine wpSeq fun F1 hF1 => ?_
  refine wpRegion ?_
  refine seqN rfl rfl (nBoxA rfl rfl) (fun g2 H2 hx2 hB2 hg2 hl2 => ?_)
  refine seqN rfl rfl (nBox (v := .slice _ _ _) rfl rfl rfl) (fun g3 H3 hx3 hB3 hg3 hl3 => ?_)
  refine seqQ rfl rfl (yAssign (v := .bool _) rfl rfl) ?_
  refine seqNil ?_
  refine hF1 _ _ ?_; clear hF1
  refine wpSeq fun F2 hF2 => ?_
  refine wpSeq fun F3 hF3 => ?_
  refine wpRegion ?_
  refine seqQ rfl rfl (yLoadB (hB2.ext hx3) rfl Try.underlying27 rfl Try.sizeOf27 rfl) ?_
  -- e slot 11: call F27<farandole/zone.Valid> t10
  refine seqE rfl rfl (stepCall rfl Try.call27 rfl ?_)
  refine (zvalid_c z A ca _ ((hA.ext hx2).ext hx3)).mono ?_
  rintro v H4 ⟨rfl, hx4⟩
  have hE := (hx2.trans hx3).trans hx4
  replace hB2 := (hB2.ext hx3).ext hx4
  replace hB3 := hB3.ext hx4
  clear hx2 hx3 hx4
  refine seqQ rfl rfl (yNot rfl rfl) ?_
  -- guard t13
  refine seqGB rfl rfl rfl rfl (fun hv => ?_) (fun hv => ?_)
  · skip
    have hv : ¬ ValZ z := by simpa using hv
    refine seqU rfl rfl ?_
    refine seqU rfl rfl ?_
    refine seqU rfl rfl ?_
    refine seqU rfl rfl ?_
    refine seqU rfl rfl ?_
    refine seqQ rfl rfl (yPickT (v := .bool _) rfl rfl rfl) ?_
    refine seqNil ?_
    refine hF3 _ _ ?_; clear hF3
    -- if t19
    refine wpT rfl ?_
    refine wpSeq fun F4 hF4 => ?_
    refine wpRegion ?_
    refine seqQ rfl rfl (yAssign (v := .bool _) rfl rfl) ?_
    refine seqNil ?_
    refine hF4 _ _ ?_; clear hF4
    -- ret
    refine wpRet (fin1 (v := .bool _) rfl rfl ?_)
    exact ⟨by rw [decide_eq_false (fun h : HoldsP z vs => hv h.1)], hE⟩
  · skip
    have hv : ValZ z := by simpa using hv
    obtain ⟨d1, d2, d3, d4⟩ := hv.dim
    refine seqQ rfl rfl (yLoad rfl Try.underlying22 rfl rfl (hB3.cell (j := 0) rfl)) ?_
    refine seqQ rfl rfl (yLen rfl Try.underlying22 rfl) ?_
    refine seqQ rfl rfl (yFieldAddr rfl Try.underlying27 rfl Try.sizeOf3 rfl rfl) ?_
    refine seqQ rfl rfl (yLoad rfl Try.underlying3 rfl rfl (hB2.cell rfl)) ?_
    refine seqQ rfl rfl (yNeq rfl rfl rfl) ?_
    refine seqQ rfl rfl (yPickF (v := .bool _) rfl rfl rfl) ?_
    refine seqNil ?_
    refine hF3 _ _ ?_; clear hF3
    -- if t19
    refine wpCond rfl (fun hl => ?_) (fun hl => ?_)
    · skip
      have hl : ¬ (vs.length : Int) = z.N := by simpa using hl
      refine wpSeq fun F5 hF5 => ?_
      refine wpRegion ?_
      refine seqQ rfl rfl (yAssign (v := .bool _) rfl rfl) ?_
      refine seqNil ?_
      refine hF5 _ _ ?_; clear hF5
      -- ret
      refine wpRet (fin1 (v := .bool _) rfl rfl ?_)
      exact ⟨by rw [decide_eq_false (fun h : HoldsP z vs => hl h.2.1)], hE⟩
    · skip
      have hl : (vs.length : Int) = z.N := by simpa using hl
      have rA := hA.ext hE
      have rB := hB.ext hE
      refine wpSkip ?_
      refine hF2 _ _ ?_; clear hF2
      refine wpSeq fun F6 hF6 => ?_
      refine wpRegion ?_
      refine seqQ rfl rfl (yMakeFunc (first := []) (captured := [.tmp 3]) (vs := []) (us := [.pointer _]) rfl rfl rfl) ?_
      refine seqQ rfl rfl (yAssign (v := .func _ _ _) rfl rfl) ?_
      refine seqNil ?_
      refine hF6 _ _ ?_; clear hF6
      refine wpSeq fun F7 hF7 => ?_
      refine wpSeq fun F8 hF8 => ?_
      refine wpRegion ?_
      refine seqQ rfl rfl (yLoad rfl Try.underlying22 rfl rfl (hB3.cell (j := 0) rfl)) ?_
      refine seqQ rfl rfl (yLen rfl Try.underlying22 rfl) ?_
      refine seqQ rfl rfl (yMove (v := .int _ _) rfl rfl) ?_
      refine seqNil ?_
      refine hF8 _ _ ?_; clear hF8
      -- loop
      refine wpBlock ?_
      refine wpLoopS [4, 7, 23, 24, 25, 26, 27, 28, 29, 30, 31, 32, 33] (fun k : Nat => [(23, .int .i64 k)]) (fun k H' => k ≤ vs.length ∧ (∀ x ∈ vs.take k, -10000 ≤ x ∧ x ≤ 10000) ∧ H' = H4) (fun k => vs.length - k) 0 ⟨rfl, trivial⟩ ⟨Nat.zero_le _, by simp, rfl⟩ ?_
      rintro k J _ ⟨hk, hle, e⟩
      obtain rfl := e.symm
      clear e
      refine wpSeq fun F9 hF9 => ?_
      refine wpRegion ?_
      refine seqQ rfl rfl (yLss rfl rfl rfl) ?_
      refine seqNil ?_
      refine hF9 _ _ ?_; clear hF9
      refine wpSeq fun F10 hF10 => ?_
      -- if t24
      refine wpIf rfl (fun hlt => ?_) (fun hlt => ?_)
      · skip
        have hk : k < vs.length := by omega
        obtain ⟨p, rfl, hp⟩ := rB.at1 hk
        refine wpSkip ?_
        refine hF10 _ _ ?_; clear hF10
        refine wpSeq fun F11 hF11 => ?_
        refine wpBlock ?_
        refine wpSeq fun F12 hF12 => ?_
        refine wpRegion ?_
        refine seqQ rfl rfl (yIdx1 rfl Try.underlying22 Try.sizeOf3 rfl rfl rfl hk) ?_
        refine seqQ rfl rfl (yLoad rfl Try.underlying3 rfl rfl hp) ?_
        refine seqQ rfl rfl (yAssign (v := .int _ _) rfl rfl) ?_
        refine seqNil ?_
        refine hF12 _ _ ?_; clear hF12
        refine wpSeq fun F13 hF13 => ?_
        refine wpRegion ?_
        refine seqQ rfl rfl (yMove (v := .int _ _) rfl rfl) ?_
        refine seqQ rfl rfl (yLss rfl rfl rfl) ?_
        -- guard t29
        refine seqMeet 6 [29, 30, 31, 32] 32 (decide (vs[k] < -10000 ∨ 10000 < vs[k])) (fun hm14 => ?_) (fun J14 => ?_)
        · skip
          first | refine seqG rfl rfl rfl rfl (fun h29 => ?_) (fun h29 => ?_) | refine seqGB rfl rfl rfl rfl (fun h29 => ?_) (fun h29 => ?_)
          · skip
            refine seqU rfl rfl ?_
            refine seqU rfl rfl ?_
            refine seqQ rfl rfl (yPickT (v := .bool _) rfl rfl rfl) ?_
            exact hm14 _ (by repeat (first | (with_reducible exact Agree.refl _ _) | refine Agree.upd ?_ rfl | refine Agree.over ?_ rfl)) (by show Value.bool _ = Value.bool _; congr 1; grind)
          · skip
            refine seqQ rfl rfl (yMove (v := .int _ _) rfl rfl) ?_
            refine seqQ rfl rfl (yGtr rfl rfl rfl) ?_
            refine seqQ rfl rfl (yPickF (v := .bool _) rfl rfl rfl) ?_
            exact hm14 _ (by repeat (first | (with_reducible exact Agree.refl _ _) | refine Agree.upd ?_ rfl | refine Agree.over ?_ rfl)) (by show Value.bool _ = Value.bool _; congr 1; grind)
        refine seqNil ?_
        refine hF13 _ _ ?_; clear hF13
        -- if t32
        refine wpIf rfl (fun hbad => ?_) (fun hbad => ?_)
        · skip
          refine wpSeq fun F15 hF15 => ?_
          refine wpRegion ?_
          refine seqQ rfl rfl (yAssign (v := .bool _) rfl rfl) ?_
          refine seqNil ?_
          refine hF15 _ _ ?_; clear hF15
          -- ret
          refine wpRet (fin1 (v := .bool _) rfl rfl ?_)
          exact ⟨by rw [decide_eq_false (fun h : HoldsP z vs => by have := h.2.2.1 _ (List.getElem_mem hk); omega)], hE⟩
        · skip
          refine wpSkip ?_
          refine hF11 _ _ ?_; clear hF11
          refine wpRegion ?_
          refine seqQ rfl rfl (yAdd rfl rfl rfl (by unfold In64; omega)) ?_
          refine seqQ rfl rfl (yMove (v := .int _ _) rfl rfl) ?_
          refine seqNil ?_
          -- end loop
          exact loopEnd (k + 1) (by repeat (first | (with_reducible exact Agree.refl _ _) | refine Agree.upd ?_ rfl | refine Agree.over ?_ rfl)) (by omega) ⟨rfl, trivial⟩ ⟨hk, take_all hk hle (by omega), rfl⟩
      · skip
        have hin : ∀ x ∈ vs, -10000 ≤ x ∧ x ≤ 10000 := fun x hx => hle x (by rw [List.take_of_length_le (by omega)]; exact hx)
        clear hle hlt hk
        refine wpExit ?_
        refine hF7 _ _ ?_; clear hF7
        refine wpSeq fun F16 hF16 => ?_
        refine wpSeq fun F17 hF17 => ?_
        refine wpRegion ?_
        refine seqQ rfl rfl (yFieldAddr rfl Try.underlying27 rfl Try.sizeOf3 rfl rfl) ?_
        refine seqQ rfl rfl (yLoad rfl Try.underlying3 rfl rfl (hB2.cell rfl)) ?_
        refine seqQ rfl rfl (yAddE rfl rfl rfl (by unfold In64; omega) hv.succ) ?_
        refine seqQ rfl rfl (yMove (v := .int _ _) rfl rfl) ?_
        refine seqNil ?_
        refine hF17 _ _ ?_; clear hF17
        -- loop
        refine wpBlock ?_
        refine wpLoopS [4, 8, 9, 37, 38, 39, 40, 41, 42, 43, 44, 45, 46, 47, 48, 49, 50, 51, 52, 53, 54, 55, 56, 57, 58, 59] (fun i : Nat => [(37, .int .i64 i)]) (fun i H' => i ≤ dm z ∧ Ext H4 H' ∧ ∀ a, a < i → ∀ b, b < dm z → num vs a - num vs b ≤ mt (dm z) z.b a b) (fun i => dm z - i) 0 ⟨rfl, trivial⟩ ⟨Nat.zero_le _, Ext.refl _, fun a h => absurd h (by omega)⟩ ?_
        rintro i J2 Hi ⟨hi, ei, hall⟩
        refine wpSeq fun F18 hF18 => ?_
        refine wpRegion ?_
        refine seqQ rfl rfl (yLss rfl rfl rfl) ?_
        refine seqNil ?_
        refine hF18 _ _ ?_; clear hF18
        refine wpSeq fun F19 hF19 => ?_
        -- if t38
        refine wpIf rfl (fun hlt2 => ?_) (fun hlt2 => ?_)
        · skip
          have hi : i < dm z := by omega
          refine wpSkip ?_
          refine hF19 _ _ ?_; clear hF19
          refine wpSeq fun F20 hF20 => ?_
          refine wpBlock ?_
          refine wpSeq fun F21 hF21 => ?_
          refine wpRegion ?_
          refine seqQ rfl rfl (yMove (v := .int _ _) rfl rfl) ?_
          refine seqQ rfl rfl (yAssign (v := .int _ _) rfl rfl) ?_
          refine seqNil ?_
          refine hF21 _ _ ?_; clear hF21
          refine wpSeq fun F22 hF22 => ?_
          refine wpRegion ?_
          refine seqQ rfl rfl (yFieldAddr rfl Try.underlying27 rfl Try.sizeOf3 rfl rfl) ?_
          refine seqQ rfl rfl (yLoad rfl Try.underlying3 rfl rfl ((hB2.ext ei).cell rfl)) ?_
          refine seqQ rfl rfl (yAddE rfl rfl rfl (by unfold In64; omega) hv.succ) ?_
          refine seqQ rfl rfl (yMove (v := .int _ _) rfl rfl) ?_
          refine seqNil ?_
          refine hF22 _ _ ?_; clear hF22
          -- loop
          refine wpBlock ?_
          refine wpLoopS [4, 9, 43, 44, 45, 46, 47, 48, 49, 50, 51, 52, 53, 54, 55, 56, 57, 58] (fun j : Nat => [(43, .int .i64 j)]) (fun j H' => j ≤ dm z ∧ Ext H4 H' ∧ ∀ b, b < j → num vs i - num vs b ≤ mt (dm z) z.b i b) (fun j => dm z - j) 0 ⟨rfl, trivial⟩ ⟨Nat.zero_le _, ei, fun a h => absurd h (by omega)⟩ ?_
          rintro j J3 Hj ⟨hj, ej, hrow⟩
          refine wpSeq fun F23 hF23 => ?_
          refine wpRegion ?_
          refine seqQ rfl rfl (yLss rfl rfl rfl) ?_
          refine seqNil ?_
          refine hF23 _ _ ?_; clear hF23
          refine wpSeq fun F24 hF24 => ?_
          -- if t44
          refine wpIf rfl (fun hlt3 => ?_) (fun hlt3 => ?_)
          · skip
            have hj : j < dm z := by omega
            have b1 := num_in hin i
            have b2 := num_in hin j
            refine wpSkip ?_
            refine hF24 _ _ ?_; clear hF24
            refine wpSeq fun F25 hF25 => ?_
            refine wpBlock ?_
            refine wpSeq fun F26 hF26 => ?_
            refine wpRegion ?_
            refine seqQ rfl rfl (yMove (v := .int _ _) rfl rfl) ?_
            refine seqQ rfl rfl (yAssign (v := .int _ _) rfl rfl) ?_
            refine seqNil ?_
            refine hF26 _ _ ?_; clear hF26
            refine wpSeq fun F27 hF27 => ?_
            refine wpRegionD Try_mixed [.q, .q, .e, .q, .q, .e, .q, .q, .q, .q, .e, .q] 11 [0, 0, 3, 0, 0, 31, 63, 0, 0, 0, 959, 2047] [] (by kernel_rfl) _ rfl [0, 1, 2, 3, 4, 5, 6, 7, 8, 9, 10] rfl (by simp) ?_
            refine lexQ rfl rfl rfl rfl (fun H hM => (yMove (v := .func _ _ _) rfl rfl)) ?_
            refine lexQ rfl rfl rfl rfl (fun H hM => (yMove (v := .int _ _) rfl rfl)) ?_
            -- e slot 48: callv t46 t47
            refine lexE0 rfl rfl rfl rfl rfl (fun hM48 => stepCallV (first := []) (cap := [.pointer (some ⟨g3, 0, none⟩)]) rfl Try.call50 rfl rfl ?_)
            refine (hnum_c i vs B cb g3 _ _ (hB3.ext ej) (rB.ext ej) (by omega) (by omega)).mono ?_
            rintro v _ ⟨rfl, e⟩
            obtain rfl := e.symm
            clear e
            refine lexFr (F := []) (Ext.refl _) (by simp) (by simp) ?_
            refine lexQ rfl rfl rfl rfl (fun H hM => (yMove (v := .func _ _ _) rfl rfl)) ?_
            refine lexQ rfl rfl rfl rfl (fun H hM => (yMove (v := .int _ _) rfl rfl)) ?_
            -- e slot 51: callv t49 t50
            refine lexE0 rfl rfl rfl rfl rfl (fun hM51 => stepCallV (first := []) (cap := [.pointer (some ⟨g3, 0, none⟩)]) rfl Try.call50 rfl rfl ?_)
            refine (hnum_c j vs B cb g3 _ _ (hB3.ext ej) (rB.ext ej) (by omega) (by omega)).mono ?_
            rintro v _ ⟨rfl, e⟩
            obtain rfl := e.symm
            clear e
            refine lexFr (F := []) (Ext.refl _) (by simp) (by simp) ?_
            refine lexQ rfl rfl rfl rfl (fun H hM => (ySub rfl rfl rfl (by unfold In64; omega))) ?_
            refine lexQ rfl rfl rfl rfl (fun H hM => (yLoadB ((hB2.ext ej).ext hM.ext) rfl Try.underlying27 rfl Try.sizeOf27 rfl)) ?_
            refine lexQ rfl rfl rfl rfl (fun H hM => (yMove (v := .int _ _) rfl rfl)) ?_
            refine lexQ rfl rfl rfl rfl (fun H hM => (yMove (v := .int _ _) rfl rfl)) ?_
            -- e slot 56: call F44<(farandole/zone.Zone).at> t53 t54 t55
            refine lexX0 rfl rfl rfl rfl rfl (by simp) (fun hM56 => stepCall rfl Try.call44 rfl ?_)
            refine (at_c z i j A ca _ (rA.ext ej) hv hi hj).mono ?_
            rintro v H8 ⟨rfl, hx8⟩
            refine ⟨hx8, fun _ => ?_⟩
            -- tail
            refine lexNil0 rfl (fun hM => ?_)
            refine seqQ rfl rfl (yGtr rfl rfl rfl) ?_
            refine seqNil ?_
            refine hF27 _ _ ?_; clear hF27
            -- if t57
            refine wpIf rfl (fun hbad => ?_) (fun hbad => ?_)
            · skip
              refine wpSeq fun F28 hF28 => ?_
              refine wpRegion ?_
              refine seqQ rfl rfl (yAssign (v := .bool _) rfl rfl) ?_
              refine seqNil ?_
              refine hF28 _ _ ?_; clear hF28
              -- ret
              refine wpRet (fin1 (v := .bool _) rfl rfl ?_)
              exact ⟨by rw [decide_eq_false (fun h : HoldsP z vs => by have := h.2.2.2 i hi j hj; omega)], (hE.trans ej).trans hx8⟩
            · skip
              refine wpSkip ?_
              refine hF25 _ _ ?_; clear hF25
              refine wpRegion ?_
              refine seqQ rfl rfl (yAdd rfl rfl rfl (by unfold In64; omega)) ?_
              refine seqQ rfl rfl (yMove (v := .int _ _) rfl rfl) ?_
              refine seqNil ?_
              -- end loop
              exact loopEnd (j + 1) (by repeat (first | (with_reducible exact Agree.refl _ _) | refine Agree.upd ?_ rfl | refine Agree.over ?_ rfl)) (by omega) ⟨rfl, trivial⟩ ⟨hj, ej.trans hx8, fun b hb => by
                rcases Nat.lt_or_ge b j with h | h
                · exact hrow b h
                · obtain rfl : b = j := by omega
                  omega⟩
          · skip
            refine wpExit ?_
            refine hF20 _ _ ?_; clear hF20
            refine wpRegion ?_
            refine seqQ rfl rfl (yAdd rfl rfl rfl (by unfold In64; omega)) ?_
            refine seqQ rfl rfl (yMove (v := .int _ _) rfl rfl) ?_
            refine seqNil ?_
            -- end loop
            exact loopEnd (i + 1) (by repeat (first | (with_reducible exact Agree.refl _ _) | refine Agree.upd ?_ rfl | refine Agree.over ?_ rfl)) (by omega) ⟨rfl, trivial⟩ ⟨hi, ej, fun a ha b hb => by
              rcases Nat.lt_or_ge a i with h | h
              · exact hall a h b hb
              · obtain rfl : a = i := by omega
                exact hrow b (by omega)⟩
        · skip
          refine wpExit ?_
          refine hF16 _ _ ?_; clear hF16
          refine wpSeq fun F29 hF29 => ?_
          refine wpRegion ?_
          refine seqQ rfl rfl (yAssign (v := .bool _) rfl rfl) ?_
          refine seqNil ?_
          refine hF29 _ _ ?_; clear hF29
          -- ret
          refine wpRet (fin1 (v := .bool _) rfl rfl ?_)
          have : HoldsP z vs := ⟨hv, hl, hin, fun a ha b hb => hall a (by omega) b hb⟩
          exact ⟨by rw [decide_eq_true this], hE.trans ei⟩
set_option maxRecDepth 100000 in
theorem rHolds_c (z : Zn) (vs : List Int) (A B : Option Addr) (ca cb : Nat) (H : Heap) (hA : Rd eInt H A z.b) (hB : Rd eInt H B vs) :
    CallsH Try.prog 32 [.agg (znC z A ca).toArray, .slice B vs.length cb] H fun v H' => v = .bool (decide (HoldsP z vs)) ∧ Ext H H' := by
  refine callsH_of Try.func32 rfl Try.ntmps32 (Nat.le_of_ble_eq_true rfl) ?_
  refine wpSeq fun F1 hF1 => ?_
  refine wpRegion ?_
  refine seqN rfl rfl (nBoxA rfl rfl) (fun g2 H2 hx2 hB2 hg2 hl2 => ?_)
  refine seqQ rfl rfl (yAssign (v := .bool _) rfl rfl) ?_
  refine seqNil ?_
  refine hF1 _ _ ?_; clear hF1
  refine wpSeq fun F2 hF2 => ?_
  refine wpSeq fun F3 hF3 => ?_
  refine wpRegion ?_
  refine seqQ rfl rfl (yLoadB hB2 rfl Try.underlying24 rfl Try.sizeOf24 rfl) ?_
  -- e slot 9: call F28<farandole/farandoleref13.Valid> t8
  refine seqE rfl rfl (stepCall rfl Try.call28 rfl ?_)
  refine (rvalid_c z A ca _ (hA.ext hx2)).mono ?_
  rintro v H4 ⟨rfl, hx4⟩
  have hE := hx2.trans hx4
  replace hB2 := hB2.ext hx4
  clear hx2 hx4
  refine seqQ rfl rfl (yNot rfl rfl) ?_
  -- guard t11
  refine seqGB rfl rfl rfl rfl (fun hv => ?_) (fun hv => ?_)
  · skip
    have hv : ¬ ValZ z := by simpa using hv
    refine seqU rfl rfl ?_
    refine seqU rfl rfl ?_
    refine seqU rfl rfl ?_
    refine seqU rfl rfl ?_
    refine seqU rfl rfl ?_
    refine seqQ rfl rfl (yPickT (v := .bool _) rfl rfl rfl) ?_
    refine seqNil ?_
    refine hF3 _ _ ?_; clear hF3
    -- if t17
    refine wpT rfl ?_
    refine wpSeq fun F4 hF4 => ?_
    refine wpRegion ?_
    refine seqQ rfl rfl (yAssign (v := .bool _) rfl rfl) ?_
    refine seqNil ?_
    refine hF4 _ _ ?_; clear hF4
    -- ret
    refine wpRet (fin1 (v := .bool _) rfl rfl ?_)
    exact ⟨by rw [decide_eq_false (fun h : HoldsP z vs => hv h.1)], hE⟩
  · skip
    have hv : ValZ z := by simpa using hv
    obtain ⟨d1, d2, d3, d4⟩ := hv.dim
    refine seqQ rfl rfl (yMove (v := .slice _ _ _) rfl rfl) ?_
    refine seqQ rfl rfl (yLen rfl Try.underlying22 rfl) ?_
    refine seqQ rfl rfl (yFieldAddr rfl Try.underlying24 rfl Try.sizeOf3 rfl rfl) ?_
    refine seqQ rfl rfl (yLoad rfl Try.underlying3 rfl rfl (hB2.cell rfl)) ?_
    refine seqQ rfl rfl (yNeq rfl rfl rfl) ?_
    refine seqQ rfl rfl (yPickF (v := .bool _) rfl rfl rfl) ?_
    refine seqNil ?_
    refine hF3 _ _ ?_; clear hF3
    -- if t17
    refine wpCond rfl (fun hl => ?_) (fun hl => ?_)
    · skip
      have hl : ¬ (vs.length : Int) = z.N := by simpa using hl
      refine wpSeq fun F5 hF5 => ?_
      refine wpRegion ?_
      refine seqQ rfl rfl (yAssign (v := .bool _) rfl rfl) ?_
      refine seqNil ?_
      refine hF5 _ _ ?_; clear hF5
      -- ret
      refine wpRet (fin1 (v := .bool _) rfl rfl ?_)
      exact ⟨by rw [decide_eq_false (fun h : HoldsP z vs => hl h.2.1)], hE⟩
    · skip
      have hl : (vs.length : Int) = z.N := by simpa using hl
      have rA := hA.ext hE
      have rB := hB.ext hE
      refine wpSkip ?_
      refine hF2 _ _ ?_; clear hF2
      refine wpSeq fun F6 hF6 => ?_
      refine wpSeq fun F7 hF7 => ?_
      refine wpRegion ?_
      refine seqQ rfl rfl (yAssign (v := .int _ _) rfl rfl) ?_
      refine seqNil ?_
      refine hF7 _ _ ?_; clear hF7
      -- loop
      refine wpBlock ?_
      refine wpLoopS [4, 5, 18, 19, 20, 21, 22, 23, 24, 25, 26, 27, 28, 29, 30, 31, 32, 33, 34, 35] (fun k : Nat => [(5, .int .i64 k)]) (fun k H' => k ≤ vs.length ∧ (∀ x ∈ vs.take k, -10000 ≤ x ∧ x ≤ 10000) ∧ H' = H4) (fun k => vs.length - k) 0 ⟨rfl, trivial⟩ ⟨Nat.zero_le _, by simp, rfl⟩ ?_
      rintro k J _ ⟨hk, hle, e⟩
      obtain rfl := e.symm
      clear e
      refine wpSeq fun F8 hF8 => ?_
      refine wpSeq fun F9 hF9 => ?_
      refine wpRegion ?_
      refine seqQ rfl rfl (yMove (v := .int _ _) rfl rfl) ?_
      refine seqQ rfl rfl (yMove (v := .slice _ _ _) rfl rfl) ?_
      refine seqQ rfl rfl (yLen rfl Try.underlying22 rfl) ?_
      refine seqQ rfl rfl (yLss rfl rfl rfl) ?_
      refine seqNil ?_
      refine hF9 _ _ ?_; clear hF9
      -- if t21
      refine wpIf rfl (fun hlt => ?_) (fun hlt => ?_)
      · skip
        have hk : k < vs.length := by omega
        obtain ⟨p, rfl, hp⟩ := rB.at1 hk
        refine wpSkip ?_
        refine hF8 _ _ ?_; clear hF8
        refine wpSeq fun F10 hF10 => ?_
        refine wpBlock ?_
        refine wpSeq fun F11 hF11 => ?_
        refine wpRegion ?_
        refine seqQ rfl rfl (yMove (v := .slice _ _ _) rfl rfl) ?_
        refine seqQ rfl rfl (yMove (v := .int _ _) rfl rfl) ?_
        refine seqQ rfl rfl (yIdx1 rfl Try.underlying22 Try.sizeOf3 rfl rfl rfl hk) ?_
        refine seqQ rfl rfl (yLoad rfl Try.underlying3 rfl rfl hp) ?_
        refine seqQ rfl rfl (yLss rfl rfl rfl) ?_
        -- guard t29
        refine seqMeet 12 [29, 30, 31, 32, 33, 34, 35] 35 (decide (vs[k] < -10000 ∨ 10000 < vs[k])) (fun hm12 => ?_) (fun J12 => ?_)
        · skip
          first | refine seqG rfl rfl rfl rfl (fun h29 => ?_) (fun h29 => ?_) | refine seqGB rfl rfl rfl rfl (fun h29 => ?_) (fun h29 => ?_)
          · skip
            refine seqU rfl rfl ?_
            refine seqU rfl rfl ?_
            refine seqU rfl rfl ?_
            refine seqU rfl rfl ?_
            refine seqU rfl rfl ?_
            refine seqQ rfl rfl (yPickT (v := .bool _) rfl rfl rfl) ?_
            exact hm12 _ (by repeat (first | (with_reducible exact Agree.refl _ _) | refine Agree.upd ?_ rfl | refine Agree.over ?_ rfl)) (by show Value.bool _ = Value.bool _; congr 1; grind)
          · skip
            refine seqQ rfl rfl (yMove (v := .slice _ _ _) rfl rfl) ?_
            refine seqQ rfl rfl (yMove (v := .int _ _) rfl rfl) ?_
            refine seqQ rfl rfl (yIdx1 rfl Try.underlying22 Try.sizeOf3 rfl rfl rfl hk) ?_
            refine seqQ rfl rfl (yLoad rfl Try.underlying3 rfl rfl hp) ?_
            refine seqQ rfl rfl (yGtr rfl rfl rfl) ?_
            refine seqQ rfl rfl (yPickF (v := .bool _) rfl rfl rfl) ?_
            exact hm12 _ (by repeat (first | (with_reducible exact Agree.refl _ _) | refine Agree.upd ?_ rfl | refine Agree.over ?_ rfl)) (by show Value.bool _ = Value.bool _; congr 1; grind)
        refine seqNil ?_
        refine hF11 _ _ ?_; clear hF11
        -- if t35
        refine wpIf rfl (fun hbad => ?_) (fun hbad => ?_)
        · skip
          refine wpSeq fun F13 hF13 => ?_
          refine wpRegion ?_
          refine seqQ rfl rfl (yAssign (v := .bool _) rfl rfl) ?_
          refine seqNil ?_
          refine hF13 _ _ ?_; clear hF13
          -- ret
          refine wpRet (fin1 (v := .bool _) rfl rfl ?_)
          exact ⟨by rw [decide_eq_false (fun h : HoldsP z vs => by have := h.2.2.1 _ (List.getElem_mem hk); omega)], hE⟩
        · skip
          refine wpSkip ?_
          refine hF10 _ _ ?_; clear hF10
          refine wpRegion ?_
          refine seqQ rfl rfl (yMove (v := .int _ _) rfl rfl) ?_
          refine seqQ rfl rfl (yAdd rfl rfl rfl (by unfold In64; omega)) ?_
          refine seqQ rfl rfl (yAssign (v := .int _ _) rfl rfl) ?_
          refine seqNil ?_
          -- end loop
          exact loopEnd (k + 1) (by repeat (first | (with_reducible exact Agree.refl _ _) | refine Agree.upd ?_ rfl | refine Agree.over ?_ rfl)) (by omega) ⟨rfl, trivial⟩ ⟨hk, take_all hk hle (by omega), rfl⟩
      · skip
        have hin : ∀ x ∈ vs, -10000 ≤ x ∧ x ≤ 10000 := fun x hx => hle x (by rw [List.take_of_length_le (by omega)]; exact hx)
        clear hle hlt hk
        refine wpExit ?_
        refine hF6 _ _ ?_; clear hF6
        refine wpSeq fun F14 hF14 => ?_
        refine wpSeq fun F15 hF15 => ?_
        refine wpRegion ?_
        refine seqQ rfl rfl (yAssign (v := .int _ _) rfl rfl) ?_
        refine seqNil ?_
        refine hF15 _ _ ?_; clear hF15
        -- loop
        refine wpBlock ?_
        refine wpLoopS [4, 6, 7, 36, 37, 38, 39, 40, 41, 42, 43, 44, 45, 46, 47, 48, 49, 50, 51, 52, 53, 54, 55, 56, 57, 58, 59, 60, 61, 62, 63, 64, 65, 66] (fun i : Nat => [(6, .int .i64 i)]) (fun i H' => i ≤ dm z ∧ H' = H4 ∧ ∀ a, a < i → ∀ b, b < dm z → num vs a - num vs b ≤ mt (dm z) z.b a b) (fun i => dm z - i) 0 ⟨rfl, trivial⟩ ⟨Nat.zero_le _, rfl, fun a h => absurd h (by omega)⟩ ?_
        rintro i J2 _ ⟨hi, e, hall⟩
        obtain rfl := e.symm
        clear e
        refine wpSeq fun F16 hF16 => ?_
        refine wpSeq fun F17 hF17 => ?_
        refine wpRegion ?_
        refine seqQ rfl rfl (yMove (v := .int _ _) rfl rfl) ?_
        refine seqQ rfl rfl (yFieldAddr rfl Try.underlying24 rfl Try.sizeOf3 rfl rfl) ?_
        refine seqQ rfl rfl (yLoad rfl Try.underlying3 rfl rfl (hB2.cell rfl)) ?_
        refine seqQ rfl rfl (yLeq rfl rfl rfl) ?_
        refine seqNil ?_
        refine hF17 _ _ ?_; clear hF17
        -- if t39
        refine wpIf rfl (fun hlt2 => ?_) (fun hlt2 => ?_)
        · skip
          have hi : i < dm z := by omega
          refine wpSkip ?_
          refine hF16 _ _ ?_; clear hF16
          refine wpSeq fun F18 hF18 => ?_
          refine wpBlock ?_
          refine wpSeq fun F19 hF19 => ?_
          refine wpRegion ?_
          refine seqQ rfl rfl (yAssign (v := .int _ _) rfl rfl) ?_
          refine seqNil ?_
          refine hF19 _ _ ?_; clear hF19
          -- loop
          refine wpBlock ?_
          refine wpLoopS [4, 7, 42, 43, 44, 45, 46, 47, 48, 49, 50, 51, 52, 53, 54, 55, 56, 57, 58, 59, 60, 61, 62, 63, 64, 65, 66] (fun j : Nat => [(7, .int .i64 j)]) (fun j H' => j ≤ dm z ∧ H' = H4 ∧ ∀ b, b < j → num vs i - num vs b ≤ mt (dm z) z.b i b) (fun j => dm z - j) 0 ⟨rfl, trivial⟩ ⟨Nat.zero_le _, rfl, fun a h => absurd h (by omega)⟩ ?_
          rintro j J3 _ ⟨hj, e, hrow⟩
          obtain rfl := e.symm
          clear e
          refine wpSeq fun F20 hF20 => ?_
          refine wpSeq fun F21 hF21 => ?_
          refine wpRegion ?_
          refine seqQ rfl rfl (yMove (v := .int _ _) rfl rfl) ?_
          refine seqQ rfl rfl (yFieldAddr rfl Try.underlying24 rfl Try.sizeOf3 rfl rfl) ?_
          refine seqQ rfl rfl (yLoad rfl Try.underlying3 rfl rfl (hB2.cell rfl)) ?_
          refine seqQ rfl rfl (yLeq rfl rfl rfl) ?_
          refine seqNil ?_
          refine hF21 _ _ ?_; clear hF21
          -- if t45
          refine wpIf rfl (fun hlt3 => ?_) (fun hlt3 => ?_)
          · skip
            have hj : j < dm z := by omega
            have b1 := num_in hin i
            have b2 := num_in hin j
            have hpos := idx_lt hi hj
            obtain ⟨q, eq, hq⟩ := rdM rA d4 hi hj
            subst eq
            refine wpSkip ?_
            refine hF20 _ _ ?_; clear hF20
            refine wpSeq fun F22 hF22 => ?_
            refine wpBlock ?_
            refine wpSeq fun F23 hF23 => ?_
            refine wpRegionD Try_mixed [.q, .q, .e, .q, .q, .e, .q, .q, .q, .q, .q, .q, .q, .q, .q, .q, .q, .q, .q] 18 [0, 0, 3, 0, 0, 31, 63, 0, 128, 0, 0, 1024, 3072, 7680, 0, 32256, 65408, 130944, 262143] [] (by kernel_rfl) _ rfl [0, 1, 2, 3, 4, 5, 6, 7, 8, 9, 10, 11, 12, 13, 14, 15, 16, 17] rfl (by simp) ?_
            refine lexQ rfl rfl rfl rfl (fun H hM => (yMove (v := .slice _ _ _) rfl rfl)) ?_
            refine lexQ rfl rfl rfl rfl (fun H hM => (yMove (v := .int _ _) rfl rfl)) ?_
            -- e slot 50: call F51<farandole/farandoleref13.number> t48 t49
            refine lexX0 rfl rfl rfl rfl rfl (by simp) (fun hM50 => stepCall rfl Try.call51 rfl ?_)
            refine (rnum_c i vs B cb _ rB (by omega) (by omega)).mono ?_
            rintro v _ ⟨rfl, e⟩
            obtain rfl := e.symm
            clear e
            refine ⟨Ext.refl _, fun _ => ?_⟩
            refine lexQ rfl rfl rfl rfl (fun H hM => (yMove (v := .slice _ _ _) rfl rfl)) ?_
            refine lexQ rfl rfl rfl rfl (fun H hM => (yMove (v := .int _ _) rfl rfl)) ?_
            -- e slot 53: call F51<farandole/farandoleref13.number> t51 t52
            refine lexX0 rfl rfl rfl rfl rfl (by simp) (fun hM53 => stepCall rfl Try.call51 rfl ?_)
            refine (rnum_c j vs B cb _ rB (by omega) (by omega)).mono ?_
            rintro v _ ⟨rfl, e⟩
            obtain rfl := e.symm
            clear e
            refine ⟨Ext.refl _, fun _ => ?_⟩
            refine lexQ rfl rfl rfl rfl (fun H hM => (ySub rfl rfl rfl (by unfold In64; omega))) ?_
            refine lexQ rfl rfl rfl rfl (fun H hM => (yFieldAddr rfl Try.underlying24 rfl Try.sizeOf22 rfl rfl)) ?_
            refine lexQ rfl rfl rfl rfl (fun H hM => (yLoad rfl Try.underlying22 rfl rfl (hM.ext.cell (hB2.cell rfl)))) ?_
            refine lexQ rfl rfl rfl rfl (fun H hM => (yMove (v := .int _ _) rfl rfl)) ?_
            refine lexQ rfl rfl rfl rfl (fun H hM => (yFieldAddr rfl Try.underlying24 rfl Try.sizeOf3 rfl rfl)) ?_
            refine lexQ rfl rfl rfl rfl (fun H hM => (yLoad rfl Try.underlying3 rfl rfl (hM.ext.cell (hB2.cell rfl)))) ?_
            refine lexQ rfl rfl rfl rfl (fun H hM => (yAddE rfl rfl rfl (by unfold In64; omega) hv.succ)) ?_
            refine lexQ rfl rfl rfl rfl (fun H hM => (yMul rfl rfl rfl (mul_in (by omega) d3))) ?_
            refine lexQ rfl rfl rfl rfl (fun H hM => (yMove (v := .int _ _) rfl rfl)) ?_
            refine lexQ rfl rfl rfl rfl (fun H hM => (yAdd rfl rfl rfl (add_in (by omega) d3 (by omega)))) ?_
            refine lexQ rfl rfl rfl rfl (fun H hM => (yIdx1 rfl Try.underlying22 Try.sizeOf3 rfl rfl idx_e (by omega))) ?_
            refine lexQ rfl rfl rfl rfl (fun H hM => (yLoad rfl Try.underlying3 rfl rfl (hM.ext.cell hq))) ?_
            -- tail
            refine lexNil0 rfl (fun hM => ?_)
            refine seqQ rfl rfl (yGtr rfl rfl rfl) ?_
            refine seqNil ?_
            refine hF23 _ _ ?_; clear hF23
            -- if t66
            refine wpIf rfl (fun hbad => ?_) (fun hbad => ?_)
            · skip
              refine wpSeq fun F24 hF24 => ?_
              refine wpRegion ?_
              refine seqQ rfl rfl (yAssign (v := .bool _) rfl rfl) ?_
              refine seqNil ?_
              refine hF24 _ _ ?_; clear hF24
              -- ret
              refine wpRet (fin1 (v := .bool _) rfl rfl ?_)
              exact ⟨by rw [decide_eq_false (fun h : HoldsP z vs => by have := h.2.2.2 i hi j hj; omega)], hE⟩
            · skip
              refine wpSkip ?_
              refine hF22 _ _ ?_; clear hF22
              refine wpRegion ?_
              refine seqQ rfl rfl (yMove (v := .int _ _) rfl rfl) ?_
              refine seqQ rfl rfl (yAdd rfl rfl rfl (by unfold In64; omega)) ?_
              refine seqQ rfl rfl (yAssign (v := .int _ _) rfl rfl) ?_
              refine seqNil ?_
              -- end loop
              exact loopEnd (j + 1) (by repeat (first | (with_reducible exact Agree.refl _ _) | refine Agree.upd ?_ rfl | refine Agree.over ?_ rfl)) (by omega) ⟨rfl, trivial⟩ ⟨hj, rfl, fun b hb => by
                rcases Nat.lt_or_ge b j with h | h
                · exact hrow b h
                · obtain rfl : b = j := by omega
                  omega⟩
          · skip
            refine wpExit ?_
            refine hF18 _ _ ?_; clear hF18
            refine wpRegion ?_
            refine seqQ rfl rfl (yMove (v := .int _ _) rfl rfl) ?_
            refine seqQ rfl rfl (yAdd rfl rfl rfl (by unfold In64; omega)) ?_
            refine seqQ rfl rfl (yAssign (v := .int _ _) rfl rfl) ?_
            refine seqNil ?_
            -- end loop
            exact loopEnd (i + 1) (by repeat (first | (with_reducible exact Agree.refl _ _) | refine Agree.upd ?_ rfl | refine Agree.over ?_ rfl)) (by omega) ⟨rfl, trivial⟩ ⟨hi, rfl, fun a ha b hb => by
              rcases Nat.lt_or_ge a i with h | h
              · exact hall a h b hb
              · obtain rfl : a = i := by omega
                exact hrow b (by omega)⟩
        · skip
          refine wpExit ?_
          refine hF14 _ _ ?_; clear hF14
          refine wpSeq fun F25 hF25 => ?_
          refine wpRegion ?_
          refine seqQ rfl rfl (yAssign (v := .bool _) rfl rfl) ?_
          refine seqNil ?_
          refine hF25 _ _ ?_; clear hF25
          -- ret
          refine wpRet (fin1 (v := .bool _) rfl rfl ?_)
          have : HoldsP z vs := ⟨hv, hl, hin, fun a ha b hb => hall a (by omega) b hb⟩
          exact ⟨by rw [decide_eq_true this], hE⟩
end Go.Proofs.Ytjkbkmbblidipaa
