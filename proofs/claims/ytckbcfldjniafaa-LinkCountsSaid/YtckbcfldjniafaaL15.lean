/- LinkOrigin: a packet that arrives differs from the packet that was sent in exactly one byte if its fate is damage, and not at all otherwise. Conditions: none beyond the statement's. -/
import Derived.Test.YtckbcfldjniafaaL14
namespace Go.Proofs.Ytckbcfldjniafaa
open Go.ChangeShapes Go.WideShapes Go.ChangeAt Go.RowKit Go.Deep

/-- In how many of the first places two byte strings differ. -/
def cntD (x d : List UInt8) : Nat → Nat
  | 0 => 0
  | j + 1 => cntD x d j + if x.getD j 0 = d.getD j 0 then 0 else 1
set_option maxRecDepth 100000 in
theorem cntD_le (x d : List UInt8) (j : Nat) : cntD x d j ≤ j := by
  induction j with
  | zero => exact Nat.le_refl _
  | succ j ih =>
    unfold cntD
    split <;> omega
set_option maxRecDepth 100000 in
theorem cntD_same (d : List UInt8) (j : Nat) : cntD d d j = 0 := by
  induction j with
  | zero => rfl
  | succ j ih => unfold cntD; rw [ih, if_pos rfl]
set_option maxRecDepth 100000 in
theorem xor1_ne (b : UInt8) : b ^^^ 1 ≠ b := fun e => by
  have : b ^^^ 1 ^^^ b = b ^^^ b := by rw [e]
  rw [UInt8.xor_comm b 1, UInt8.xor_assoc, UInt8.xor_self] at this
  exact absurd this (by decide)
set_option maxRecDepth 100000 in
theorem cntD_set (d : List UInt8) (k : Nat) (hk : k < d.length) (j : Nat) (hj : j ≤ d.length) : cntD (d.set k (d.getD k 0 ^^^ 1)) d j = if k < j then 1 else 0 := by
  induction j with
  | zero => rw [if_neg (by omega)]; rfl
  | succ j ih =>
    unfold cntD
    rw [ih (by omega)]
    have e1 : (d.set k (d.getD k 0 ^^^ 1)).getD j 0 = if k = j then d.getD k 0 ^^^ 1 else d.getD j 0 := by
      simp only [List.getD_eq_getElem?_getD, List.getElem?_set]
      split
      · rfl
      · rfl
    rw [e1]
    by_cases h : k = j
    · subst h
      rw [if_pos rfl, if_neg (xor1_ne _), if_neg (by omega), if_pos (by omega)]
    · rw [if_neg h, if_pos rfl, Nat.add_zero]
      by_cases h2 : k < j
      · rw [if_pos h2, if_pos (by omega)]
      · rw [if_neg h2, if_neg (by omega)]
set_option maxRecDepth 100000 in
theorem cntD_arr (p : UInt8) (d : List UInt8) : cntD (arr p d) d d.length = if p.toNat % 8 = 7 ∧ 0 < d.length then 1 else 0 := by
  unfold arr
  split
  · rename_i h
    have hk : p.toNat / 8 % d.length < d.length := Nat.mod_lt _ h.2
    rw [cntD_set d _ hk _ (Nat.le_refl _), if_pos hk]
  · exact cntD_same _ _
/-- All copies of a link are d. -/
def AllF (d : List UInt8) (f : List Fl) : Prop := ∀ x ∈ f, x.2 = d
set_option maxRecDepth 100000 in
theorem all_tick {l : Lk} {d : List UInt8} (h : AllF d l.fly) : AllF d (tickL l).1.fly ∧ ∀ x ∈ (tickL l).2, x = d := by
  unfold tickL
  split
  · exact ⟨fun x hx => (by cases hx), fun x hx => (by cases hx)⟩
  · refine ⟨fun x hx => h x ((List.dropWhile_sublist _).subset hx), fun x hx => ?_⟩
    dsimp only at hx
    obtain ⟨y, hy, rfl⟩ := List.mem_map.1 hx
    exact h y ((List.takeWhile_sublist _).subset hy)
set_option maxRecDepth 100000 in
theorem tick_len {l : Lk} : (tickL l).2.length ≤ l.fly.length := by
  unfold tickL
  split
  · simp
  · dsimp only
    rw [List.length_map]
    exact (List.takeWhile_sublist _).length_le
set_option maxRecDepth 100000 in
theorem first_send (p : UInt8) (d : List UInt8) (hd : d.length ≤ 1000) : (sendL ⟨[p], 0, 0, []⟩ d).1 = 0 ∧ AllF (arr p d) (sendL ⟨[p], 0, 0, []⟩ d).2.fly := by
  have hv : ValidL ⟨[p], 0, 0, []⟩ := ValidL.of (by simp) ⟨by simp, by simp⟩ ⟨by simp, by simp⟩ ⟨by simp, List.Pairwise.nil, fun x hx => by cases hx⟩
  have e := sendL_ok (l := ⟨[p], 0, 0, []⟩) (d := d) (by intro h; rcases h with h | h; exact h hv; exact absurd h (by simp)) (by omega)
  rw [e]
  refine ⟨rfl, fun x hx => ?_⟩
  rcases putAll_mem _ hx with hx | ⟨t, -, rfl⟩
  · cases hx
  · rfl
set_option maxRecDepth 100000 in
theorem origin_walk (p : UInt8) (A : Option Addr) (ca : Nat) (d : List UInt8) (H : Heap) (hA : Rd eByte H A d) (hd : d.length ≤ 9223372036854775807) :
    CallsH Try.prog 4 [.int .u8 (p.toNat : Int), .slice A d.length ca] H fun v H' => v = .bool true ∧ Ext H H' := by
  have hp8 := p.toNat_lt
  refine callsH_of Try.func4 rfl Try.ntmps4 (Nat.le_of_ble_eq_true rfl) ?_
  refine wpSeq fun F1 hF1 => ?_
  refine wpRegion ?_
  refine seqQ rfl rfl (yAssign (v := .bool _) rfl rfl) ?_
  refine seqNil ?_
  refine hF1 _ _ ?_; clear hF1
  refine wpSeq fun F2 hF2 => ?_
  refine wpSeq fun F3 hF3 => ?_
  refine wpRegion ?_
  -- e slot 14: call F9<farandole/farandolelaw45.awake> 
  refine seqE rfl rfl (stepCall rfl Try.call9 rfl ?_)
  refine (lkAwake_c _).mono ?_
  rintro v Ha ⟨rfl, xa⟩
  refine seqQ rfl rfl (yNot rfl rfl) ?_
  refine seqNil ?_
  refine hF3 _ _ ?_; clear hF3
  -- if t15
  refine wpF rfl ?_
  refine wpSkip ?_
  refine hF2 _ _ ?_; clear hF2
  refine wpSeq fun F4 hF4 => ?_
  refine wpSeq fun F5 hF5 => ?_
  refine wpRegion ?_
  refine seqQ rfl rfl (yMove (v := .slice _ _ _) rfl rfl) ?_
  refine seqQ rfl rfl (yLen rfl Try.underlying22 rfl) ?_
  refine seqQ rfl rfl (yGtr rfl rfl rfl) ?_
  refine seqNil ?_
  refine hF5 _ _ ?_; clear hF5
  -- if t18
  refine wpIf rfl (fun h60 => ?_) (fun h60 => ?_)
  · skip
    refine wpSeq fun F6 hF6 => ?_
    refine wpRegion ?_
    refine seqQ rfl rfl (yAssign (v := .bool _) rfl rfl) ?_
    refine seqNil ?_
    refine hF6 _ _ ?_; clear hF6
    -- ret
    refine wpRet (fin1 (v := .bool _) rfl rfl ?_)
    exact ⟨rfl, xa⟩
  · skip
    have hd : d.length ≤ 60 := by omega
    refine wpSkip ?_
    refine hF4 _ _ ?_; clear hF4
    refine wpSeq fun F7 hF7 => ?_
    refine wpRegion ?_
    refine seqQ rfl rfl (yMove (v := .int _ _) rfl rfl) ?_
    refine seqN rfl rfl (nBuildSlice (vs := [.int _ _]) rfl Try.underlying22 Try.sizeOf5 Try.zeroValue5 rfl rfl rfl rfl) (fun g21 H21 hx21 hB21 hg21 hl21 => ?_)
    -- e slot 22: call F21<farandole/link.New> t21
    refine seqE rfl rfl (stepCall rfl Try.call21 rfl ?_)
    refine (new_c (some ⟨g21, 0, none⟩) 1 [p] H21 (Blk.rd (c := eByte) (l := [p]) hB21) (by simp)).mono ?_
    rintro v Hb ⟨L1, hv, e1, r1, xb⟩
    have en : newL [p] = (0, ⟨[p], 0, 0, []⟩) := if_neg (by simp)
    rw [en] at hv e1
    subst hv
    refine seqQ rfl rfl (yMove (v := .tuple _) rfl rfl) ?_
    refine seqQ rfl rfl (yExtract (v := .agg _) rfl rfl rfl) ?_
    refine seqQ rfl rfl (yExtract (v := .int _ _) rfl rfl rfl) ?_
    refine seqN rfl rfl (nAlloc rfl Try.zeroValue30 rfl) (fun g5 H5 hx5 hB5 hg5 hl5 => ?_)
    -- e slot None: store T30 t5 t23
    refine seqE0 rfl rfl (stepStoreB rfl (by kernel_rfl) rfl rfl rfl hB5 rfl ?_)
    intro Hc h5 hKc
    have xbc : Ext Hb Hc := hx5.mine hKc (by simp; omega)
    have hE : Ext H Hc := ((xa.trans hx21).trans xb).trans xbc
    have zb : H21.size ≤ Hb.size := xb.size
    have gl5 : g5 < Hc.size := h5.lt
    have gb5 : H21.size ≤ g5 := by omega
    have z21 := hx21.size
    have za := xa.size
    replace r1 := r1.rd.ext xbc
    clear xa hx21 hB21 hB5 hKc hx5 xb xbc
    refine seqQ rfl rfl (yAssign (v := .int _ _) rfl rfl) ?_
    refine seqNil ?_
    refine hF7 _ _ ?_; clear hF7
    refine wpSeq fun F8 hF8 => ?_
    refine wpRegion ?_
    refine seqQ rfl rfl (yLoadB h5 rfl Try.underlying30 rfl Try.sizeOf30 rfl) ?_
    refine seqQ rfl rfl (yMove (v := .slice _ _ _) rfl rfl) ?_
    -- e slot 28: call F22<farandole/link.Send> t26 t27
    refine seqE rfl rfl (stepCall rfl Try.call22 rfl ?_)
    refine (send_c L1 A ca d Hc r1 (sm_of e1 (by simp) (by simp) (fun x hx => by cases hx)) (hA.ext hE) (by omega)).mono ?_
    rintro v Hd ⟨L2, hv, e2, r2, xd⟩
    obtain ⟨f1, f2⟩ := first_send p d (by omega)
    have s2 := sm_send (l := L1) (sm_of e1 (by simp) (by simp) (fun x hx => by cases hx)) e2
    rw [e1] at e2 hv
    rw [f1] at hv
    rw [← e2] at f2
    subst hv
    refine seqQ rfl rfl (yMove (v := .tuple _) rfl rfl) ?_
    refine seqQ rfl rfl (yExtract (v := .agg _) rfl rfl rfl) ?_
    refine seqQ rfl rfl (yExtract (v := .int _ _) rfl rfl rfl) ?_
    -- e slot None: store T30 t5 t29
    refine seqE0 rfl rfl (stepStoreB rfl (by kernel_rfl) rfl rfl rfl (h5.ext xd) rfl ?_)
    intro He h5' hKe
    replace h5 : Blk He g5 (lkC L2) 30 := h5'
    replace hE := (hE.trans xd).mine hKe (by simp; omega)
    replace r2 := (r2.keep hKe (by simp; omega)).rd
    clear h5' hKe xd r1 e1 e2
    refine seqQ rfl rfl (yAssign (v := .int _ _) rfl rfl) ?_
    refine seqNil ?_
    refine hF8 _ _ ?_; clear hF8
    refine wpSeq fun F9 hF9 => ?_
    refine wpSeq fun F10 hF10 => ?_
    refine wpRegion ?_
    refine seqQ rfl rfl (yMove (v := .int _ _) rfl rfl) ?_
    refine seqQ rfl rfl (yNeq rfl rfl rfl) ?_
    refine seqNil ?_
    refine hF10 _ _ ?_; clear hF10
    -- if t32
    refine wpF rfl ?_
    refine wpSkip ?_
    refine hF9 _ _ ?_; clear hF9
    refine wpSeq fun F11 hF11 => ?_
    refine wpSeq fun F12 hF12 => ?_
    refine wpRegion ?_
    refine seqQ rfl rfl (yAssign (v := .int _ _) rfl rfl) ?_
    refine seqNil ?_
    refine hF12 _ _ ?_; clear hF12
    -- loop
    refine wpBlock ?_
    refine wpLoopS [4, 8, 9, 10, 11, 12, 13, 33, 34, 35, 36, 37, 38, 39, 40, 41, 42, 43, 44, 45, 46, 47, 48, 49, 50, 51, 52, 53, 54, 55, 56, 57, 58, 59, 60, 61, 62, 63, 64, 65, 66, 67, 68, 69, 70, 71, 72, 73, 74, 75, 76, 77, 78, 79, 80, 81, 82, 83, 84, 85, 86, 87, 88, 89, 90, 91, 92, 93, 94, 95, 96, 97, 98, 99, 100, 101, 102] (fun i : Nat => [(8, .int .i64 i)]) (fun i H' => i ≤ 8 ∧ Ext H H' ∧ ∃ L : LH, Blk H' g5 (lkC L) 30 ∧ LkRd H' L ∧ LkSm L ∧ AllF (arr p d) L.lk.fly) (fun i => 8 - i) 0 ⟨rfl, trivial⟩ ⟨by omega, hE, L2, h5, r2, s2, f2⟩ ?_
    clear hE h5 r2 s2 f2
    rintro i J Hi ⟨hi, hE, L, h5, r, sm, fa⟩
    refine wpSeq fun F13 hF13 => ?_
    refine wpSeq fun F14 hF14 => ?_
    refine wpRegion ?_
    refine seqQ rfl rfl (yMove (v := .int _ _) rfl rfl) ?_
    refine seqQ rfl rfl (yLss rfl rfl rfl) ?_
    refine seqNil ?_
    refine hF14 _ _ ?_; clear hF14
    -- if t34
    refine wpIf rfl (fun hi8 => ?_) (fun hi8 => ?_)
    · skip
      have hi : i < 8 := by omega
      refine wpSkip ?_
      refine hF13 _ _ ?_; clear hF13
      refine wpSeq fun F15 hF15 => ?_
      refine wpBlock ?_
      refine wpSeq fun F16 hF16 => ?_
      refine wpRegion ?_
      refine seqQ rfl rfl (yLoadB h5 rfl Try.underlying30 rfl Try.sizeOf30 rfl) ?_
      -- e slot 39: call F11<farandole/link.Tick> t38
      refine seqE rfl rfl (stepCall rfl Try.call11 rfl ?_)
      refine (tick_c L Hi r sm).mono ?_
      rintro v Hj ⟨L', VA, va, xs, rfl, ea, eb, ra, px, xj⟩
      obtain ⟨fa1, fa2⟩ := all_tick fa
      have sm' := LkRd.sm_tick sm ea
      have hxl : xs.length ≤ 100000 := by
        have h0 := tick_len (l := L.lk)
        rw [← eb, List.length_map, fly_len] at h0
        have := sm.fly
        omega
      rw [← ea] at fa1
      have hxd : ∀ x ∈ xs, x.data = arr p d := fun x hx => fa2 x.data (by rw [← eb]; exact List.mem_map_of_mem hx)
      refine seqQ rfl rfl (yMove (v := .tuple _) rfl rfl) ?_
      refine seqQ rfl rfl (yExtract (v := .agg _) rfl rfl rfl) ?_
      refine seqQ rfl rfl (yExtract (v := .slice _ _ _) rfl rfl rfl) ?_
      refine seqN rfl rfl (nAlloc rfl Try.zeroValue30 rfl) (fun g9 H9 hx9 hB9 hg9 hl9 => ?_)
      -- e slot None: store T30 t9 t40
      refine seqE0 rfl rfl (stepStoreB rfl (by kernel_rfl) rfl rfl rfl hB9 rfl ?_)
      intro Hk h9 hKk
      have xk : Ext Hj Hk := hx9.mine hKk (by simp; omega)
      have hgi : g5 < Hi.size := h5.lt
      replace h5 := (h5.ext xj).ext xk
      replace hE := (hE.trans xj).trans xk
      replace ra := ra.ext xk
      replace px := px.ext xk
      clear hB9 hKk hx9 xk xj
      refine seqQ rfl rfl (yAssign (v := .slice _ _ _) rfl rfl) ?_
      refine seqNil ?_
      refine hF16 _ _ ?_; clear hF16
      refine wpSeq fun F17 hF17 => ?_
      refine wpRegion ?_
      refine seqQ rfl rfl (yLoadB h9 rfl Try.underlying30 rfl Try.sizeOf30 rfl) ?_
      -- e slot None: store T30 t5 t42
      refine seqE0 rfl rfl (stepStoreB rfl (by kernel_rfl) rfl rfl rfl h5 rfl ?_)
      intro Hl h5' hKl
      replace h5 : Blk Hl g5 (lkC L') 30 := h5'
      replace hE := hE.mine hKl (by simp; omega)
      replace ra := (ra.keep hKl (by simp; omega)).rd
      replace px := px.keep hKl (by simp; omega)
      clear h5' hKl h9
      refine seqNil ?_
      refine hF17 _ _ ?_; clear hF17
      refine wpSeq fun F18 hF18 => ?_
      refine wpRegion ?_
      refine seqQ rfl rfl (yAssign (v := .int _ _) rfl rfl) ?_
      refine seqNil ?_
      refine hF18 _ _ ?_; clear hF18
      -- loop
      refine wpBlock ?_
      refine wpLoopS [4, 11, 12, 13, 43, 44, 45, 46, 47, 48, 49, 50, 51, 52, 53, 54, 55, 56, 57, 58, 59, 60, 61, 62, 63, 64, 65, 66, 67, 68, 69, 70, 71, 72, 73, 74, 75, 76, 77, 78, 79, 80, 81, 82, 83, 84, 85, 86, 87, 88, 89, 90, 91, 92, 93, 94, 95, 96, 97, 98, 99, 100, 101, 102] (fun k : Nat => [(11, .int .i64 k)]) (fun k H' => k ≤ xs.length ∧ H' = Hl) (fun k => xs.length - k) 0 ⟨rfl, trivial⟩ ⟨Nat.zero_le _, rfl⟩ ?_
      rintro k J2 Hm ⟨hk, rfl⟩
      refine wpSeq fun F19 hF19 => ?_
      refine wpSeq fun F20 hF20 => ?_
      refine wpRegion ?_
      refine seqQ rfl rfl (yMove (v := .int _ _) rfl rfl) ?_
      refine seqQ rfl rfl (yMove (v := .slice _ _ _) rfl rfl) ?_
      refine seqQ rfl rfl (yLen rfl Try.underlying31 rfl) ?_
      refine seqQ rfl rfl (yLss rfl rfl rfl) ?_
      refine seqNil ?_
      refine hF20 _ _ ?_; clear hF20
      -- if t46
      refine wpIf rfl (fun hkl => ?_) (fun hkl => ?_)
      · skip
        have hk : k < xs.length := by omega
        obtain ⟨q, eq, hq⟩ := px.rd.at1 hk
        have hdk := hxd _ (List.getElem_mem hk)
        have rdk := px.data _ (List.getElem_mem hk)
        rw [hdk] at rdk
        have hlk : xs[k].data.length = d.length := by rw [hdk, arr_len]
        have hq' : cellH Hm (q.add k) = some (.slice xs[k].A d.length xs[k].cap) := by rw [← hlk]; exact hq
        refine wpSkip ?_
        refine hF19 _ _ ?_; clear hF19
        refine wpSeq fun F21 hF21 => ?_
        refine wpBlock ?_
        refine wpSeq fun F22 hF22 => ?_
        refine wpSeq fun F23 hF23 => ?_
        refine wpRegion ?_
        refine seqQ rfl rfl (yMove (v := .slice _ _ _) rfl rfl) ?_
        refine seqQ rfl rfl (yMove (v := .int _ _) rfl rfl) ?_
        refine seqQ rfl rfl (yIdxP1 rfl Try.underlying31 Try.sizeOf22 rfl rfl eq rfl hk) ?_
        refine seqQ rfl rfl (yLoad rfl Try.underlying22 rfl rfl hq') ?_
        refine seqQ rfl rfl (yLen rfl Try.underlying22 rfl) ?_
        refine seqQ rfl rfl (yMove (v := .slice _ _ _) rfl rfl) ?_
        refine seqQ rfl rfl (yLen rfl Try.underlying22 rfl) ?_
        refine seqQ rfl rfl (yNeq rfl rfl rfl) ?_
        refine seqNil ?_
        refine hF23 _ _ ?_; clear hF23
        -- if t56
        refine wpCond rfl (fun hne => ?_) (fun hne => ?_)
        · skip
          simp at hne
        · skip
          refine wpSkip ?_
          refine hF22 _ _ ?_; clear hF22
          refine wpSeq fun F24 hF24 => ?_
          refine wpRegion ?_
          refine seqQ rfl rfl (yAssign (v := .int _ _) rfl rfl) ?_
          refine seqNil ?_
          refine hF24 _ _ ?_; clear hF24
          refine wpSeq fun F25 hF25 => ?_
          refine wpSeq fun F26 hF26 => ?_
          refine wpRegion ?_
          refine seqQ rfl rfl (yAssign (v := .int _ _) rfl rfl) ?_
          refine seqNil ?_
          refine hF26 _ _ ?_; clear hF26
          -- loop
          refine wpBlock ?_
          refine wpLoopS [12, 13, 57, 58, 59, 60, 61, 62, 63, 64, 65, 66, 67, 68, 69, 70, 71, 72, 73, 74, 75, 76] (fun j : Nat => [(13, .int .i64 j), (12, .int .i64 (cntD (arr p d) d j))]) (fun j H' => j ≤ d.length ∧ H' = Hm) (fun j => d.length - j) 0 ⟨rfl, rfl, trivial⟩ ⟨Nat.zero_le _, rfl⟩ ?_
          rintro j J3 Hn ⟨hj, rfl⟩
          have hcj := cntD_le (arr p d) d j
          refine wpSeq fun F27 hF27 => ?_
          refine wpSeq fun F28 hF28 => ?_
          refine wpRegion ?_
          refine seqQ rfl rfl (yMove (v := .int _ _) rfl rfl) ?_
          refine seqQ rfl rfl (yMove (v := .slice _ _ _) rfl rfl) ?_
          refine seqQ rfl rfl (yLen rfl Try.underlying22 rfl) ?_
          refine seqQ rfl rfl (yLss rfl rfl rfl) ?_
          refine seqNil ?_
          refine hF28 _ _ ?_; clear hF28
          -- if t60
          refine wpIf rfl (fun hjl => ?_) (fun hjl => ?_)
          · skip
            have hj : j < d.length := by omega
            have hja : j < (arr p d).length := by rw [arr_len]; exact hj
            obtain ⟨q1, eq1, hq1⟩ := rdk.at1 hja
            obtain ⟨q2, eq2, hq2⟩ := (hA.ext hE).at1 hj
            have ga : (arr p d).getD j 0 = (arr p d)[j] := by rw [List.getD_eq_getElem?_getD, List.getElem?_eq_getElem hja]; rfl
            have gd : d.getD j 0 = d[j] := by rw [List.getD_eq_getElem?_getD, List.getElem?_eq_getElem hj]; rfl
            refine wpSkip ?_
            refine hF27 _ _ ?_; clear hF27
            refine wpSeq fun F29 hF29 => ?_
            refine wpBlock ?_
            refine wpSeq fun F30 hF30 => ?_
            refine wpRegionD Try_mixed [.q, .q, .q, .q, .q, .q, .q, .q, .q, .q, .q, .q] 11 [0, 0, 3, 7, 0, 31, 63, 0, 0, 384, 896, 2047] [] (by kernel_rfl) _ rfl [0, 1, 2, 3, 4, 5, 6, 7, 8, 9, 10] rfl (by simp) ?_
            refine lexQ rfl rfl rfl rfl (fun H hM => (yMove (v := .slice _ _ _) rfl rfl)) ?_
            refine lexQ rfl rfl rfl rfl (fun H hM => (yMove (v := .int _ _) rfl rfl)) ?_
            refine lexQ rfl rfl rfl rfl (fun H hM => (yIdxP1 rfl Try.underlying31 Try.sizeOf22 rfl rfl eq rfl hk)) ?_
            refine lexQ rfl rfl rfl rfl (fun H hM => (yLoad rfl Try.underlying22 rfl rfl (hM.ext.cell hq'))) ?_
            refine lexQ rfl rfl rfl rfl (fun H hM => (yMove (v := .int _ _) rfl rfl)) ?_
            refine lexQ rfl rfl rfl rfl (fun H hM => (yIdxP1 rfl Try.underlying22 Try.sizeOf5 rfl rfl eq1 rfl hj)) ?_
            refine lexQ rfl rfl rfl rfl (fun H hM => (yLoad rfl Try.underlying5 rfl rfl (hM.ext.cell hq1))) ?_
            refine lexQ rfl rfl rfl rfl (fun H hM => (yMove (v := .slice _ _ _) rfl rfl)) ?_
            refine lexQ rfl rfl rfl rfl (fun H hM => (yMove (v := .int _ _) rfl rfl)) ?_
            refine lexQ rfl rfl rfl rfl (fun H hM => (yIdxP1 rfl Try.underlying22 Try.sizeOf5 rfl rfl eq2 rfl hj)) ?_
            refine lexQ rfl rfl rfl rfl (fun H hM => (yLoad rfl Try.underlying5 rfl rfl (hM.ext.cell hq2))) ?_
            -- tail
            refine lexNil0 rfl (fun hM => ?_)
            refine seqQ rfl rfl (yNeq rfl rfl rfl) ?_
            refine seqNil ?_
            refine hF30 _ _ ?_; clear hF30
            -- if t74
            refine wpCond rfl (fun hn => ?_) (fun hn => ?_)
            · skip
              have hn : ¬ (arr p d)[j] = d[j] := fun e => by rw [e] at hn; simp at hn
              refine wpRegion ?_
              refine seqQ rfl rfl (yMove (v := .int _ _) rfl rfl) ?_
              refine seqQ rfl rfl (yAdd rfl rfl rfl (by unfold In64; omega)) ?_
              refine seqQ rfl rfl (yAssign (v := .int _ _) rfl rfl) ?_
              refine seqNil ?_
              refine hF29 _ _ ?_; clear hF29
              refine wpRegion ?_
              refine seqQ rfl rfl (yMove (v := .int _ _) rfl rfl) ?_
              refine seqQ rfl rfl (yAdd rfl rfl rfl (by unfold In64; omega)) ?_
              refine seqQ rfl rfl (yAssign (v := .int _ _) rfl rfl) ?_
              refine seqNil ?_
              -- end loop
              refine loopEnd (j + 1) (by repeat (first | (with_reducible exact Agree.refl _ _) | refine Agree.upd ?_ rfl | refine Agree.over ?_ rfl)) (by omega) ⟨rfl, ?_, trivial⟩ ⟨hj, rfl⟩
              show Value.int _ _ = Value.int _ _
              congr 1
              have : cntD (arr p d) d (j + 1) = cntD (arr p d) d j + 1 := by show _ + _ = _; rw [ga, gd, if_neg hn]
              rw [this]
              rfl
            · skip
              have hn : (arr p d)[j] = d[j] := by
                have hn : ((arr p d)[j].toNat : Int) = (d[j].toNat : Int) := by simpa using hn
                exact UInt8.toNat.inj (by omega)
              refine wpSkip ?_
              refine hF29 _ _ ?_; clear hF29
              refine wpRegion ?_
              refine seqQ rfl rfl (yMove (v := .int _ _) rfl rfl) ?_
              refine seqQ rfl rfl (yAdd rfl rfl rfl (by unfold In64; omega)) ?_
              refine seqQ rfl rfl (yAssign (v := .int _ _) rfl rfl) ?_
              refine seqNil ?_
              -- end loop
              refine loopEnd (j + 1) (by repeat (first | (with_reducible exact Agree.refl _ _) | refine Agree.upd ?_ rfl | refine Agree.over ?_ rfl)) (by omega) ⟨rfl, ?_, trivial⟩ ⟨hj, rfl⟩
              show Value.int _ _ = Value.int _ _
              congr 1
              have : cntD (arr p d) d (j + 1) = cntD (arr p d) d j := by show _ + _ = _; rw [ga, gd, if_pos hn]; rfl
              rw [this]
          · skip
            obtain rfl : j = d.length := by omega
            rw [cntD_arr]
            by_cases h7 : p.toNat % 8 = 7
            · skip
              have h7' : (p.toNat : Int) % 8 = 7 := by omega
              by_cases h0 : 0 < d.length
              · skip
                rw [if_pos ⟨h7, h0⟩]
                refine wpExit ?_
                refine hF25 _ _ ?_; clear hF25
                refine wpSeq fun F31 hF31 => ?_
                refine wpRegion ?_
                refine seqQ rfl rfl (yMove (v := .int _ _) rfl rfl) ?_
                refine seqQ rfl rfl (yRem rfl rfl rfl (by omega)) ?_
                refine seqQ rfl rfl (yEql rfl rfl rfl) ?_
                -- guard t80
                rw [decide_eq_true h7']
                refine seqQ rfl rfl (yMove (v := .bool true) rfl rfl) ?_
                refine seqQ rfl rfl (yMove (v := .slice _ _ _) rfl rfl) ?_
                refine seqQ rfl rfl (yLen rfl Try.underlying22 rfl) ?_
                refine seqQ rfl rfl (yGtr rfl rfl rfl) ?_
                refine seqQ rfl rfl (yPickT (v := .bool _) rfl rfl rfl) ?_
                -- guard t85
                rw [decide_eq_true (show (0 : Int) < (d.length : Int) by omega)]
                refine seqQ rfl rfl (yMove (v := .bool true) rfl rfl) ?_
                refine seqQ rfl rfl (yMove (v := .int _ _) rfl rfl) ?_
                refine seqQ rfl rfl (yNeq rfl rfl rfl) ?_
                refine seqQ rfl rfl (yPickT (v := .bool _) rfl rfl rfl) ?_
                refine seqQ rfl rfl (yMove (v := .bool false) rfl rfl) ?_
                refine seqQ rfl rfl (yMove (v := .int _ _) rfl rfl) ?_
                refine seqQ rfl rfl (yRem rfl rfl rfl (by omega)) ?_
                refine seqQ rfl rfl (yNeq rfl rfl rfl) ?_
                -- guard t93
                rw [decide_eq_true h7']
                refine seqQ rfl rfl (yMove (v := .bool false) rfl rfl) ?_
                refine seqQ rfl rfl (yMove (v := .slice _ _ _) rfl rfl) ?_
                refine seqQ rfl rfl (yLen rfl Try.underlying22 rfl) ?_
                refine seqQ rfl rfl (yEql rfl rfl rfl) ?_
                refine seqQ rfl rfl (yPickF (v := .bool _) rfl rfl rfl) ?_
                -- guard t98
                rw [decide_eq_false (show ¬ (d.length : Int) = 0 by omega)]
                refine seqQ rfl rfl (yMove (v := .bool false) rfl rfl) ?_
                refine seqU rfl rfl ?_
                refine seqU rfl rfl ?_
                refine seqQ rfl rfl (yPickF (v := .bool _) rfl rfl rfl) ?_
                refine seqQ rfl rfl (yPickF (v := .bool _) rfl rfl rfl) ?_
                refine seqNil ?_
                refine hF31 _ _ ?_; clear hF31
                -- if t102
                refine wpF rfl ?_
                refine wpSkip ?_
                refine hF21 _ _ ?_; clear hF21
                refine wpRegion ?_
                refine seqQ rfl rfl (yMove (v := .int _ _) rfl rfl) ?_
                refine seqQ rfl rfl (yAdd rfl rfl rfl (by unfold In64; omega)) ?_
                refine seqQ rfl rfl (yAssign (v := .int _ _) rfl rfl) ?_
                refine seqNil ?_
                -- end loop
                exact loopEnd (k + 1) (by repeat (first | (with_reducible exact Agree.refl _ _) | refine Agree.upd ?_ rfl | refine Agree.over ?_ rfl)) (by omega) ⟨rfl, trivial⟩ ⟨hk, rfl⟩
              · skip
                rw [if_neg (fun h => h0 h.2)]
                refine wpExit ?_
                refine hF25 _ _ ?_; clear hF25
                refine wpSeq fun F32 hF32 => ?_
                refine wpRegion ?_
                refine seqQ rfl rfl (yMove (v := .int _ _) rfl rfl) ?_
                refine seqQ rfl rfl (yRem rfl rfl rfl (by omega)) ?_
                refine seqQ rfl rfl (yEql rfl rfl rfl) ?_
                -- guard t80
                rw [decide_eq_true h7']
                refine seqQ rfl rfl (yMove (v := .bool true) rfl rfl) ?_
                refine seqQ rfl rfl (yMove (v := .slice _ _ _) rfl rfl) ?_
                refine seqQ rfl rfl (yLen rfl Try.underlying22 rfl) ?_
                refine seqQ rfl rfl (yGtr rfl rfl rfl) ?_
                refine seqQ rfl rfl (yPickT (v := .bool _) rfl rfl rfl) ?_
                -- guard t85
                rw [decide_eq_false (show ¬ (0 : Int) < (d.length : Int) by omega)]
                refine seqQ rfl rfl (yMove (v := .bool false) rfl rfl) ?_
                refine seqU rfl rfl ?_
                refine seqU rfl rfl ?_
                refine seqQ rfl rfl (yPickF (v := .bool _) rfl rfl rfl) ?_
                refine seqQ rfl rfl (yMove (v := .bool false) rfl rfl) ?_
                refine seqQ rfl rfl (yMove (v := .int _ _) rfl rfl) ?_
                refine seqQ rfl rfl (yRem rfl rfl rfl (by omega)) ?_
                refine seqQ rfl rfl (yNeq rfl rfl rfl) ?_
                -- guard t93
                rw [decide_eq_true h7']
                refine seqQ rfl rfl (yMove (v := .bool false) rfl rfl) ?_
                refine seqQ rfl rfl (yMove (v := .slice _ _ _) rfl rfl) ?_
                refine seqQ rfl rfl (yLen rfl Try.underlying22 rfl) ?_
                refine seqQ rfl rfl (yEql rfl rfl rfl) ?_
                refine seqQ rfl rfl (yPickF (v := .bool _) rfl rfl rfl) ?_
                -- guard t98
                rw [decide_eq_true (show (d.length : Int) = 0 by omega)]
                refine seqQ rfl rfl (yMove (v := .bool true) rfl rfl) ?_
                refine seqQ rfl rfl (yMove (v := .int _ _) rfl rfl) ?_
                refine seqQ rfl rfl (yNeq rfl rfl rfl) ?_
                refine seqQ rfl rfl (yPickT (v := .bool _) rfl rfl rfl) ?_
                refine seqQ rfl rfl (yPickF (v := .bool _) rfl rfl rfl) ?_
                refine seqNil ?_
                refine hF32 _ _ ?_; clear hF32
                -- if t102
                refine wpF rfl ?_
                refine wpSkip ?_
                refine hF21 _ _ ?_; clear hF21
                refine wpRegion ?_
                refine seqQ rfl rfl (yMove (v := .int _ _) rfl rfl) ?_
                refine seqQ rfl rfl (yAdd rfl rfl rfl (by unfold In64; omega)) ?_
                refine seqQ rfl rfl (yAssign (v := .int _ _) rfl rfl) ?_
                refine seqNil ?_
                -- end loop
                exact loopEnd (k + 1) (by repeat (first | (with_reducible exact Agree.refl _ _) | refine Agree.upd ?_ rfl | refine Agree.over ?_ rfl)) (by omega) ⟨rfl, trivial⟩ ⟨hk, rfl⟩
            · skip
              have h7' : ¬ (p.toNat : Int) % 8 = 7 := by omega
              rw [if_neg (fun h => h7 h.1)]
              refine wpExit ?_
              refine hF25 _ _ ?_; clear hF25
              refine wpSeq fun F33 hF33 => ?_
              refine wpRegion ?_
              refine seqQ rfl rfl (yMove (v := .int _ _) rfl rfl) ?_
              refine seqQ rfl rfl (yRem rfl rfl rfl (by omega)) ?_
              refine seqQ rfl rfl (yEql rfl rfl rfl) ?_
              -- guard t80
              rw [decide_eq_false h7']
              refine seqQ rfl rfl (yMove (v := .bool false) rfl rfl) ?_
              refine seqU rfl rfl ?_
              refine seqU rfl rfl ?_
              refine seqU rfl rfl ?_
              refine seqQ rfl rfl (yPickF (v := .bool _) rfl rfl rfl) ?_
              refine seqQ rfl rfl (yMove (v := .bool false) rfl rfl) ?_
              refine seqU rfl rfl ?_
              refine seqU rfl rfl ?_
              refine seqQ rfl rfl (yPickF (v := .bool _) rfl rfl rfl) ?_
              refine seqQ rfl rfl (yMove (v := .bool false) rfl rfl) ?_
              refine seqQ rfl rfl (yMove (v := .int _ _) rfl rfl) ?_
              refine seqQ rfl rfl (yRem rfl rfl rfl (by omega)) ?_
              refine seqQ rfl rfl (yNeq rfl rfl rfl) ?_
              -- guard t93
              rw [decide_eq_false h7']
              refine seqQ rfl rfl (yMove (v := .bool true) rfl rfl) ?_
              refine seqU rfl rfl ?_
              refine seqU rfl rfl ?_
              refine seqU rfl rfl ?_
              refine seqQ rfl rfl (yPickT (v := .bool _) rfl rfl rfl) ?_
              refine seqQ rfl rfl (yMove (v := .bool true) rfl rfl) ?_
              refine seqQ rfl rfl (yMove (v := .int _ _) rfl rfl) ?_
              refine seqQ rfl rfl (yNeq rfl rfl rfl) ?_
              refine seqQ rfl rfl (yPickT (v := .bool _) rfl rfl rfl) ?_
              refine seqQ rfl rfl (yPickF (v := .bool _) rfl rfl rfl) ?_
              refine seqNil ?_
              refine hF33 _ _ ?_; clear hF33
              -- if t102
              refine wpF rfl ?_
              refine wpSkip ?_
              refine hF21 _ _ ?_; clear hF21
              refine wpRegion ?_
              refine seqQ rfl rfl (yMove (v := .int _ _) rfl rfl) ?_
              refine seqQ rfl rfl (yAdd rfl rfl rfl (by unfold In64; omega)) ?_
              refine seqQ rfl rfl (yAssign (v := .int _ _) rfl rfl) ?_
              refine seqNil ?_
              -- end loop
              exact loopEnd (k + 1) (by repeat (first | (with_reducible exact Agree.refl _ _) | refine Agree.upd ?_ rfl | refine Agree.over ?_ rfl)) (by omega) ⟨rfl, trivial⟩ ⟨hk, rfl⟩
      · skip
        refine wpExit ?_
        refine hF15 _ _ ?_; clear hF15
        refine wpRegion ?_
        refine seqQ rfl rfl (yMove (v := .int _ _) rfl rfl) ?_
        refine seqQ rfl rfl (yAdd rfl rfl rfl (by unfold In64; omega)) ?_
        refine seqQ rfl rfl (yAssign (v := .int _ _) rfl rfl) ?_
        refine seqNil ?_
        -- end loop
        exact loopEnd (i + 1) (by repeat (first | (with_reducible exact Agree.refl _ _) | refine Agree.upd ?_ rfl | refine Agree.over ?_ rfl)) (by omega) ⟨rfl, trivial⟩ ⟨hi, hE, L', h5, ra, sm', fa1⟩
    · skip
      refine wpExit ?_
      refine hF11 _ _ ?_; clear hF11
      refine wpSeq fun F34 hF34 => ?_
      refine wpRegion ?_
      refine seqQ rfl rfl (yAssign (v := .bool _) rfl rfl) ?_
      refine seqNil ?_
      refine hF34 _ _ ?_; clear hF34
      -- ret
      refine wpRet (fin1 (v := .bool _) rfl rfl ?_)
      exact ⟨rfl, hE⟩
set_option maxRecDepth 100000 in
set_option maxRecDepth 100000 in
theorem linkOrigin_lifted (os : Os) (started : os.Started) (H : Type) (enc : TypeId × Value → H) :
    ReturnsInHanded {} Try.checked os 4 .any (Rows.linkOriginSpec.pre6 enc Try.prog Try.f4 Rows.linkOriginRow.domain false) (Rows.linkOriginSpec.post enc Try.prog Try.f4 false true false false) := by
  refine law_lifted started Rows.linkOriginSpec rfl (by kernel_rfl) Try.func4 rfl
    (fun ds h => by match ds, h with | [_, _], _ => rfl) (of_decide_eq_true (by kernel_rfl))
    (ChangeSpec.witness6 (enc := enc) (C := Try.checked) false ⟨#[], #[.int .u8 0, .slice none 0 0], []⟩ 8 (by kernel_rfl) (by kernel_rfl) (by kernel_rfl) (by kernel_rfl)) ?_
  intro W base args ds p hval hA
  rw [Try.params4] at hA hval
  obtain ⟨v0, v1, d0, d1, p0, p1, rfl, rfl, rfl, h0, h1⟩ := trodAll_two hA
  have g0 := hval 0 _ v0 rfl rfl
  have g1 := hval 1 _ v1 rfl rfl
  obtain ⟨p', rfl, hp1, hp2⟩ := (opn_u8i (W := W) Try.underlying5 (by kernel_rfl)).one (one_int Try.underlying5 g0) h0
  obtain ⟨p, rfl⟩ : ∃ p : UInt8, p' = (p.toNat : Int) := ⟨UInt8.ofNat p'.toNat, by
    rw [UInt8.toNat_ofNat']
    omega⟩
  obtain ⟨⟨A, ca, d⟩, rfl, kA, -, k2, k3⟩ := (opn_bytes W).one (one_slice Try.underlying22 g1) h1
  exact origin_walk p A ca d W.heap kA (by have := Nat.le_trans k2 k3; unfold maxLen at this; exact this)
set_option maxRecDepth 100000 in
theorem linkOrigin_holds : Rows.LinkOriginSaid :=
  OpenClaim.holds_of_wide 4 Try.f4 rfl rfl rfl rfl rfl rfl rfl ⟨rfl, rfl, rfl, rfl, rfl⟩ rfl rfl rfl rfl rfl (by kernel_rfl) Try.func4 (by kernel_rfl)
    (of_decide_eq_true (by kernel_rfl)) (by unfold Func.isWrapper; first | (rw [if_pos (by decide +kernel)]; kernel_rfl) | (rw [if_neg (by decide +kernel)]; exact ⟨rfl, rfl⟩))
    (fun os started H enc _ => linkOrigin_lifted os started H enc)
end Go.Proofs.Ytckbcfldjniafaa
