/- Zones: Forget (both). -/
import Derived.Test.YtjkbkmbblidipaaZ19
namespace Go.Proofs.Ytjkbkmbblidipaa
open Go.RowKit

def forL (n : Nat) (L : List Int) (k : Nat) : List Int := (List.range (n * n)).map fun p => if p / n = k ∨ p % n = k then ful (p / n) (p % n) else L.getD p 0
set_option maxRecDepth 100000 in
theorem forL_len (n : Nat) (L : List Int) (k : Nat) : (forL n L k).length = n * n := by simp [forL]
set_option maxRecDepth 100000 in
theorem forL_mt {n k : Nat} {L : List Int} {a b : Nat} (ha : a < n) (hb : b < n) : mt n (forL n L k) a b = if a = k ∨ b = k then ful a b else mt n L a b := by
  have hlt := idx_lt ha hb
  unfold mt
  rw [getD_of (by rw [forL_len]; exact hlt)]
  simp only [forL, List.getElem_map, List.getElem_range]
  rw [idx_div hb, idx_mod hb]
def forZ (z : Zn) (x : Int) : Zn × Int := if ¬ ValZ z then (zn0, 1) else if x < 0 ∨ z.N ≤ x then (zn0, 2) else if (closeZ z).2 = true then ((closeZ ⟨z.N, forL (dm z) (closeZ z).1.b (x + 1).toNat⟩).1, 0) else (nothZ z.N, 0)
set_option maxRecDepth 100000 in
theorem forZ_bad {z : Zn} {x : Int} (h : ¬ ValZ z) : forZ z x = (zn0, 1) := if_pos h
set_option maxRecDepth 100000 in
theorem forZ_rng {z : Zn} {x : Int} (h : ValZ z) (hx : x < 0 ∨ z.N ≤ x) : forZ z x = (zn0, 2) := by unfold forZ; rw [if_neg (by simpa using h), if_pos hx]
set_option maxRecDepth 100000 in
theorem forZ_none {z : Zn} {x : Int} (h : ValZ z) (hx : ¬ (x < 0 ∨ z.N ≤ x)) (e : closeZ z = (zn0, false)) : forZ z x = (nothZ z.N, 0) := by unfold forZ; rw [if_neg (by simpa using h), if_neg hx, e]; rfl
set_option maxRecDepth 100000 in
theorem forZ_some {z : Zn} {k : Nat} {L : List Int} (h : ValZ z) (hx : ¬ ((k : Int) < 0 ∨ z.N ≤ (k : Int))) (e : closeZ z = (⟨z.N, L⟩, true)) : forZ z (k : Int) = ((closeZ ⟨z.N, forL (dm z) L (k + 1)⟩).1, 0) := by
  unfold forZ; rw [if_neg (by simpa using h), if_neg hx, e, if_pos rfl]; rfl
/-- The row and the column k in work: the first i entries of both are full; p: the row is one ahead. -/
def ForI (n k i r : Nat) (L K : List Int) : Prop := K.length = n * n ∧ ∀ a b, a < n → b < n → mt n K a b = if (a = k ∧ b < r) ∨ (b = k ∧ a < i) then ful a b else mt n L a b
set_option maxRecDepth 100000 in
theorem ForI.row {n k i : Nat} {L K : List Int} (h : ForI n k i i L K) (hk : k < n) (hi : i < n) : ForI n k i (i + 1) L (K.set (k * n + i) (ful k i)) := by
  refine ⟨by rw [List.length_set]; exact h.1, fun a b ha hb => ?_⟩
  rw [mt_set h.1 hk hi hb, h.2 a b ha hb]
  by_cases e : a = k ∧ b = i
  · rw [if_pos e, if_pos (.inl ⟨e.1, by omega⟩), e.1, e.2]
  · rw [if_neg e]
    have : ((a = k ∧ b < i) ∨ (b = k ∧ a < i)) ↔ ((a = k ∧ b < i + 1) ∨ (b = k ∧ a < i)) := by omega
    simp only [this]
set_option maxRecDepth 100000 in
theorem ForI.col {n k i : Nat} {L K : List Int} (h : ForI n k i (i + 1) L K) (hk : k < n) (hi : i < n) : ForI n k (i + 1) (i + 1) L (K.set (i * n + k) (ful i k)) := by
  refine ⟨by rw [List.length_set]; exact h.1, fun a b ha hb => ?_⟩
  rw [mt_set h.1 hi hk hb, h.2 a b ha hb]
  by_cases e : a = i ∧ b = k
  · rw [if_pos e, if_pos (.inr ⟨e.2, by omega⟩), e.1, e.2]
  · rw [if_neg e]
    have : ((a = k ∧ b < i + 1) ∨ (b = k ∧ a < i)) ↔ ((a = k ∧ b < i + 1) ∨ (b = k ∧ a < i + 1)) := by omega
    simp only [this]
set_option maxRecDepth 100000 in
/-- .. the other way round. -/
theorem ForI.col' {n k i : Nat} {L K : List Int} (h : ForI n k i i L K) (hk : k < n) (hi : i < n) : ForI n k (i + 1) i L (K.set (i * n + k) (ful i k)) := by
  refine ⟨by rw [List.length_set]; exact h.1, fun a b ha hb => ?_⟩
  rw [mt_set h.1 hi hk hb, h.2 a b ha hb]
  by_cases e : a = i ∧ b = k
  · rw [if_pos e, if_pos (.inr ⟨e.2, by omega⟩), e.1, e.2]
  · rw [if_neg e]
    have : ((a = k ∧ b < i) ∨ (b = k ∧ a < i)) ↔ ((a = k ∧ b < i) ∨ (b = k ∧ a < i + 1)) := by omega
    simp only [this]
set_option maxRecDepth 100000 in
theorem ForI.row' {n k i : Nat} {L K : List Int} (h : ForI n k (i + 1) i L K) (hk : k < n) (hi : i < n) : ForI n k (i + 1) (i + 1) L (K.set (k * n + i) (ful k i)) := by
  refine ⟨by rw [List.length_set]; exact h.1, fun a b ha hb => ?_⟩
  rw [mt_set h.1 hk hi hb, h.2 a b ha hb]
  by_cases e : a = k ∧ b = i
  · rw [if_pos e, if_pos (.inl ⟨e.1, by omega⟩), e.1, e.2]
  · rw [if_neg e]
    have : ((a = k ∧ b < i) ∨ (b = k ∧ a < i + 1)) ↔ ((a = k ∧ b < i + 1) ∨ (b = k ∧ a < i + 1)) := by omega
    simp only [this]
set_option maxRecDepth 100000 in
theorem ForI.done {n k : Nat} {L K : List Int} (h : ForI n k n n L K) : K = forL n L k := by
  refine mt_ext h.1 (forL_len _ _ _) fun a b ha hb => ?_
  rw [h.2 a b ha hb, forL_mt ha hb]
  have : ((a = k ∧ b < n) ∨ (b = k ∧ a < n)) ↔ (a = k ∨ b = k) := by omega
  simp only [this]
set_option maxRecDepth 100000 in
theorem forget_c (z : Zn) (x : Int) (A : Option Addr) (ca : Nat) (H : Heap) (hA : Rd eInt H A z.b) (h8 : z.N ≤ 8) :
    CallsH Try.prog 35 [.agg (znC z A ca).toArray, .int .i64 x] H fun v H' => Ext H H' ∧ ∃ u, v = .tuple #[u, .int .i64 (forZ z x).2] ∧ ZO H' H.size u (forZ z x).1 := by
  refine callsH_of Try.func35 rfl Try.ntmps35 (Nat.le_of_ble_eq_true rfl) ?_
  refine wpSeq fun F1 hF1 => ?_
  refine wpRegion ?_
  refine seqN rfl rfl (nBoxA rfl rfl) (fun g2 H2 hx2 hB2 hg2 hl2 => ?_)
  refine seqN rfl rfl (nAlloc rfl Try.zeroValue27 rfl) (fun g4 H4 hx4 hB4 hg4 hl4 => ?_)
  refine seqQ rfl rfl (yAssign (v := .int _ _) rfl rfl) ?_
  refine seqNil ?_
  refine hF1 _ _ ?_; clear hF1
  refine wpSeq fun F2 hF2 => ?_
  refine wpSeq fun F3 hF3 => ?_
  refine wpRegion ?_
  refine seqQ rfl rfl (yLoadB (hB2.ext hx4) rfl Try.underlying27 rfl Try.sizeOf27 rfl) ?_
  -- e slot 12: call F27<farandole/zone.Valid> t11
  refine seqE rfl rfl (stepCall rfl Try.call27 rfl ?_)
  refine (zvalid_c z A ca _ ((hA.ext hx2).ext hx4)).mono ?_
  rintro v H5 ⟨rfl, hx5⟩
  have hE := (hx2.trans hx4).trans hx5
  have q4 : H.size ≤ g4 := by have := hx2.size; omega
  replace hB2 := (hB2.ext hx4).ext hx5
  replace hB4 := hB4.ext hx5
  clear hx2 hx4 hx5
  refine seqQ rfl rfl (yNot rfl rfl) ?_
  refine seqNil ?_
  refine hF3 _ _ ?_; clear hF3
  -- if t13
  refine wpCond rfl (fun hv => ?_) (fun hv => ?_)
  · skip
    have hv : ¬ ValZ z := by simpa using hv
    refine wpSeq fun F4 hF4 => ?_
    refine wpRegion ?_
    refine seqQ rfl rfl (yBuild (pl := [(0, 1), (1, 1)]) (vs := []) rfl Try.underlying27 Try.zeroValue27 rfl (by unfold Places; kernel_rfl) rfl rfl) ?_
    -- e slot None: store T27 t4 t14
    refine seqE0 rfl rfl (stepStoreB rfl (by kernel_rfl) rfl rfl rfl hB4 rfl ?_)
    intro H6 hB6 hK6
    refine seqQ rfl rfl (yAssign (v := .int _ _) rfl rfl) ?_
    refine seqNil ?_
    refine hF4 _ _ ?_; clear hF4
    -- ret
    refine wpRet (finR2 rfl (resC Try.underlying27 rfl (by kernel_rfl) rfl hB6) (resT (v := .int _ _) rfl) ?_)
    rw [forZ_bad hv]
    exact ⟨hE.mine hK6 (by simpa using q4), _, rfl, ZO.zero _ _⟩
  · skip
    have hv : ValZ z := by simpa using hv
    obtain ⟨d1, d2, d3, d4⟩ := hv.dim
    refine wpSkip ?_
    refine hF2 _ _ ?_; clear hF2
    refine wpSeq fun F5 hF5 => ?_
    refine wpSeq fun F6 hF6 => ?_
    refine wpRegion ?_
    refine seqQ rfl rfl (yMove (v := .int _ _) rfl rfl) ?_
    refine seqQ rfl rfl (yLss rfl rfl rfl) ?_
    -- guard t17
    refine seqMeet 8 [17, 18, 19, 20, 21, 22] 22 (decide (x < 0 ∨ z.N ≤ x)) (fun hm7 => ?_) (fun J7 => ?_)
    · skip
      first | refine seqG rfl rfl rfl rfl (fun h17 => ?_) (fun h17 => ?_) | refine seqGB rfl rfl rfl rfl (fun h17 => ?_) (fun h17 => ?_)
      · skip
        refine seqU rfl rfl ?_
        refine seqU rfl rfl ?_
        refine seqU rfl rfl ?_
        refine seqU rfl rfl ?_
        refine seqQ rfl rfl (yPickT (v := .bool _) rfl rfl rfl) ?_
        exact hm7 _ (by repeat (first | (with_reducible exact Agree.refl _ _) | refine Agree.upd ?_ rfl | refine Agree.over ?_ rfl)) (by show Value.bool _ = Value.bool _; congr 1; grind)
      · skip
        refine seqQ rfl rfl (yMove (v := .int _ _) rfl rfl) ?_
        refine seqQ rfl rfl (yFieldAddr rfl Try.underlying27 rfl Try.sizeOf3 rfl rfl) ?_
        refine seqQ rfl rfl (yLoad rfl Try.underlying3 rfl rfl (hB2.cell rfl)) ?_
        refine seqQ rfl rfl (yGeq rfl rfl rfl) ?_
        refine seqQ rfl rfl (yPickF (v := .bool _) rfl rfl rfl) ?_
        exact hm7 _ (by repeat (first | (with_reducible exact Agree.refl _ _) | refine Agree.upd ?_ rfl | refine Agree.over ?_ rfl)) (by show Value.bool _ = Value.bool _; congr 1; grind)
    refine seqNil ?_
    refine hF6 _ _ ?_; clear hF6
    -- if t22
    refine wpIf rfl (fun hx => ?_) (fun hx => ?_)
    · skip
      refine wpSeq fun F8 hF8 => ?_
      refine wpRegion ?_
      refine seqQ rfl rfl (yBuild (pl := [(0, 1), (1, 1)]) (vs := []) rfl Try.underlying27 Try.zeroValue27 rfl (by unfold Places; kernel_rfl) rfl rfl) ?_
      -- e slot None: store T27 t4 t23
      refine seqE0 rfl rfl (stepStoreB rfl (by kernel_rfl) rfl rfl rfl hB4 rfl ?_)
      intro H6 hB6 hK6
      refine seqQ rfl rfl (yAssign (v := .int _ _) rfl rfl) ?_
      refine seqNil ?_
      refine hF8 _ _ ?_; clear hF8
      -- ret
      refine wpRet (finR2 rfl (resC Try.underlying27 rfl (by kernel_rfl) rfl hB6) (resT (v := .int _ _) rfl) ?_)
      rw [forZ_rng hv hx]
      exact ⟨hE.mine hK6 (by simpa using q4), _, rfl, ZO.zero _ _⟩
    · skip
      obtain ⟨k, rfl⟩ := Int.eq_ofNat_of_zero_le (show 0 ≤ x by omega)
      have hk : k + 1 < dm z := by omega
      refine wpSkip ?_
      refine hF5 _ _ ?_; clear hF5
      refine wpSeq fun F9 hF9 => ?_
      refine wpRegion ?_
      refine seqQ rfl rfl (yLoadB hB2 rfl Try.underlying27 rfl Try.sizeOf27 rfl) ?_
      -- e slot 26: call F14<farandole/zone.Close> t25
      refine seqE rfl rfl (stepCall rfl Try.call14 rfl ?_)
      have hc := close_c z A ca _ (hA.ext hE) h8
      rcases closeZ_cases z with ⟨e, _⟩ | ⟨L, e, -, hL⟩
      · skip
        rw [e] at hc
        refine hc.mono ?_
        rintro v Hc ⟨hxc, u, rfl, A', ca', rfl, ho⟩
        refine seqQ rfl rfl (yMove (v := .tuple _) rfl rfl) ?_
        refine seqQ rfl rfl (yExtract (v := .agg _) rfl rfl rfl) ?_
        refine seqQ rfl rfl (yExtract (v := .bool _) rfl rfl rfl) ?_
        refine seqN rfl rfl (nAlloc rfl Try.zeroValue27 rfl) (fun g6 H6 hx6 hB6 hg6 hl6 => ?_)
        -- e slot None: store T27 t6 t27
        refine seqE0 rfl rfl (stepStoreB rfl (by kernel_rfl) rfl rfl rfl hB6 rfl ?_)
        intro H7 hB7 hK7
        have x7 := afterStore hxc hx6 hg6 hK7
        replace hE := hE.trans x7
        replace hB2 := hB2.ext x7
        replace hB4 := hB4.ext x7
        have l4 := hB4.lt
        have sE := hE.size
        refine seqQ rfl rfl (yAssign (v := .bool _) rfl rfl) ?_
        refine seqNil ?_
        refine hF9 _ _ ?_; clear hF9
        refine wpSeq fun F10 hF10 => ?_
        refine wpSeq fun F11 hF11 => ?_
        refine wpRegion ?_
        refine seqQ rfl rfl (yMove (v := .bool _) rfl rfl) ?_
        refine seqQ rfl rfl (yNot rfl rfl) ?_
        refine seqNil ?_
        refine hF11 _ _ ?_; clear hF11
        -- if t30
        refine wpT rfl ?_
        refine wpSeq fun F12 hF12 => ?_
        refine wpRegion ?_
        refine seqQ rfl rfl (yFieldAddr rfl Try.underlying27 rfl Try.sizeOf3 rfl rfl) ?_
        refine seqQ rfl rfl (yLoad rfl Try.underlying3 rfl rfl (hB2.cell rfl)) ?_
        -- e slot 33: call F52<farandole/zone.nothing> t32
        refine seqE rfl rfl (stepCall rfl Try.call52 rfl ?_)
        refine (nothing_c z.N _ (by omega) (by omega)).mono ?_
        rintro v Hn ⟨hxn, An, cn, rfl, hon⟩
        -- e slot None: store T27 t4 t33
        refine seqE0 rfl rfl (stepStoreB rfl (by kernel_rfl) rfl rfl rfl (hB4.ext hxn) rfl ?_)
        intro Hm hBm hKm
        refine seqQ rfl rfl (yAssign (v := .int _ _) rfl rfl) ?_
        refine seqNil ?_
        refine hF12 _ _ ?_; clear hF12
        -- ret
        refine wpRet (finR2 rfl (resC Try.underlying27 rfl (by kernel_rfl) rfl hBm) (resT (v := .int _ _) rfl) ?_)
        rw [forZ_none hv hx e]
        refine ⟨(hE.trans hxn).mine hKm (by simpa using q4), _, rfl, ?_⟩
        exact (ZO.keep ⟨An, cn, rfl, hon⟩ hKm l4).fresh sE
      · skip
        rw [e] at hc
        refine hc.mono ?_
        rintro v Hc ⟨hxc, u, rfl, A', ca', rfl, ho⟩
        have hll := hL.len
        have hl0 : 0 < L.length := by rw [hll]; exact Nat.mul_pos d2 d2
        have l4 := hB4.lt
        have sE := hE.size
        have sxc := hxc.size
        have hE5 := hE
        have l2b := hB2.lt
        refine seqQ rfl rfl (yMove (v := .tuple _) rfl rfl) ?_
        refine seqQ rfl rfl (yExtract (v := .agg _) rfl rfl rfl) ?_
        refine seqQ rfl rfl (yExtract (v := .bool _) rfl rfl rfl) ?_
        refine seqN rfl rfl (nAlloc rfl Try.zeroValue27 rfl) (fun g6 H6 hx6 hB6 hg6 hl6 => ?_)
        -- e slot None: store T27 t6 t27
        refine seqE0 rfl rfl (stepStoreB rfl (by kernel_rfl) rfl rfl rfl hB6 rfl ?_)
        intro H7 hB7 hK7
        have x7 := afterStore hxc hx6 hg6 hK7
        have ho7 := ownStore ho hx6 hg6 hK7
        replace hE := hE.trans x7
        replace hB2 := hB2.ext x7
        replace hB4 := hB4.ext x7
        obtain ⟨p, rfl, hp0⟩ := (Own.rd ho7).2.at1 hl0
        have hpb := ho.lt p.block rfl
        have st : ZSt H g4 g6 27 z.N p L.length ca' L H7 := ⟨hE, ho7.mono (by omega), hB4, hB7, by omega, by omega, by omega, q4⟩
        have sd : Side g2 27 p (znC z A ca) A z.b H7 := Side.mk' hB2 (hA.ext hE5) x7 hpb.1 (by have := l2b; omega)
        clear hxc hx6 hK7 x7 hc hB6 hB7 hB4 hB2 ho ho7 hp0
        refine seqQ rfl rfl (yAssign (v := .bool _) rfl rfl) ?_
        refine seqNil ?_
        refine hF9 _ _ ?_; clear hF9
        refine wpSeq fun F13 hF13 => ?_
        refine wpSeq fun F14 hF14 => ?_
        refine wpRegion ?_
        refine seqQ rfl rfl (yMove (v := .bool _) rfl rfl) ?_
        refine seqQ rfl rfl (yNot rfl rfl) ?_
        refine seqNil ?_
        refine hF14 _ _ ?_; clear hF14
        -- if t30
        refine wpF rfl ?_
        refine wpSkip ?_
        refine hF13 _ _ ?_; clear hF13
        refine wpSeq fun F15 hF15 => ?_
        refine wpSeq fun F16 hF16 => ?_
        refine wpRegion ?_
        refine seqQ rfl rfl (yFieldAddr rfl Try.underlying27 rfl Try.sizeOf3 rfl rfl) ?_
        refine seqQ rfl rfl (yLoad rfl Try.underlying3 rfl rfl (sd.b8.cell rfl)) ?_
        refine seqQ rfl rfl (yAddE rfl rfl rfl (by unfold In64; omega) hv.succ) ?_
        refine seqQ rfl rfl (yMove (v := .int _ _) rfl rfl) ?_
        refine seqNil ?_
        refine hF16 _ _ ?_; clear hF16
        -- loop
        refine wpBlock ?_
        refine wpLoopS [8, 37, 38, 39, 40, 41, 42, 43, 44, 45, 46, 47, 48, 49, 50, 51, 52, 53, 54, 55, 56, 57, 58, 59, 60, 61, 62, 63, 64, 65, 66, 67, 68, 69, 70] (fun x : Nat × List Int => [(37, .int .i64 x.1)]) (fun x H' => x.1 ≤ dm z ∧ ForI (dm z) (k + 1) x.1 x.1 L x.2 ∧ ZSt H g4 g6 27 z.N p L.length ca' x.2 H' ∧ Side g2 27 p (znC z A ca) A z.b H') (fun x => dm z - x.1) (0, L) ⟨rfl, trivial⟩ ⟨Nat.zero_le _, ⟨hll, fun a b _ _ => by simp⟩, st, sd⟩ ?_
        rintro ⟨i, K⟩ J Hi ⟨hi, hf, st1, sd1⟩
        dsimp only at hi hf st1 sd1
        clear st sd
        refine wpSeq fun F17 hF17 => ?_
        refine wpRegion ?_
        refine seqQ rfl rfl (yLss rfl rfl rfl) ?_
        refine seqNil ?_
        refine hF17 _ _ ?_; clear hF17
        refine wpSeq fun F18 hF18 => ?_
        -- if t38
        refine wpIf rfl (fun hlt => ?_) (fun hlt => ?_)
        · skip
          have hi : i < dm z := by dsimp only at hlt; omega
          have ix1 := idx_lt hk hi
          have ix2 := idx_lt hi hk
          have hfl := hf.1
          refine wpSkip ?_
          refine hF18 _ _ ?_; clear hF18
          refine wpSeq fun F19 hF19 => ?_
          refine wpBlock ?_
          refine wpSeq fun F20 hF20 => ?_
          refine wpRegion ?_
          refine seqQ rfl rfl (yMove (v := .int _ _) rfl rfl) ?_
          refine seqQ rfl rfl (yAssign (v := .int _ _) rfl rfl) ?_
          refine seqNil ?_
          refine hF20 _ _ ?_; clear hF20
          refine wpSeq fun F21 hF21 => ?_
          refine wpRegionD Try_mixed [.q, .q, .q, .q, .q, .q, .q, .q, .q, .q, .q, .q, .q, .e, .q, .e] 14 [0, 1, 0, 4, 0, 16, 48, 124, 0, 508, 0, 1024, 0, 7168, 16383, 32767] [] (by kernel_rfl) _ rfl [0, 1, 2, 3, 4, 5, 6, 7, 8, 9, 10, 11, 12, 13] rfl (by simp) ?_
          refine lexQ rfl rfl rfl rfl (fun H hM => (yFieldAddr rfl Try.underlying27 rfl Try.sizeOf22 rfl rfl)) ?_
          refine lexQ rfl rfl rfl rfl (fun H hM => (yLoad rfl Try.underlying22 rfl rfl (hM.ext.cell (st1.b5.cell rfl)))) ?_
          refine lexQ rfl rfl rfl rfl (fun H hM => (yMove (v := .int _ _) rfl rfl)) ?_
          refine lexQ rfl rfl rfl rfl (fun H hM => (yAddE rfl rfl rfl (by unfold In64; omega) (Int.natCast_succ k).symm)) ?_
          refine lexQ rfl rfl rfl rfl (fun H hM => (yFieldAddr rfl Try.underlying27 rfl Try.sizeOf3 rfl rfl)) ?_
          refine lexQ rfl rfl rfl rfl (fun H hM => (yLoad rfl Try.underlying3 rfl rfl (hM.ext.cell (sd1.b8.cell rfl)))) ?_
          refine lexQ rfl rfl rfl rfl (fun H hM => (yAddE rfl rfl rfl (by unfold In64; omega) hv.succ)) ?_
          refine lexQ rfl rfl rfl rfl (fun H hM => (yMul rfl rfl rfl (mul_in (by omega) d3))) ?_
          refine lexQ rfl rfl rfl rfl (fun H hM => (yMove (v := .int _ _) rfl rfl)) ?_
          refine lexQ rfl rfl rfl rfl (fun H hM => (yAdd rfl rfl rfl (by dsimp only; exact add_in (by omega) d3 (by omega)))) ?_
          refine lexQ rfl rfl rfl rfl (fun H hM => (yMove (v := .int _ _) rfl rfl)) ?_
          refine lexQ rfl rfl rfl rfl (fun H hM => (yAddE rfl rfl rfl (by unfold In64; omega) (Int.natCast_succ k).symm)) ?_
          refine lexQ rfl rfl rfl rfl (fun H hM => (yMove (v := .int _ _) rfl rfl)) ?_
          -- e slot 53: call F42<farandole/zone.full> t51 t52
          refine lexX0 rfl rfl rfl rfl rfl (by simp) (fun hM53 => stepCall rfl Try.call42 rfl ?_)
          refine (full_c (k + 1) i _).mono ?_
          rintro w _ ⟨rfl, ee⟩
          obtain rfl := ee.symm
          clear ee
          refine ⟨Ext.refl _, fun _ => ?_⟩
          -- tail
          refine lexNil0 rfl (fun hM => ?_)
          refine seqQ rfl rfl (yIdx1 rfl Try.underlying22 Try.sizeOf3 rfl rfl idx_e (by rw [hll]; exact ix1)) ?_
          -- e slot None: store T3 t54 t53
          refine seqE0 rfl rfl (stepStoreOwn st1.own rfl Try.sizeOf3 rfl rfl rfl rfl (by rw [hfl]; exact ix1) ?_)
          intro H8 hown8 hK8
          have st2 := st1.store hown8 hK8
          have sd2 := sd1.store hK8
          have hf2 := hf.row hk hi
          have hfl2 := hf2.1
          clear st1 sd1
          refine seqNil ?_
          refine hF21 _ _ ?_; clear hF21
          refine wpRegionD Try_mixed [.q, .q, .q, .q, .q, .q, .q, .q, .q, .q, .q, .q, .q, .e, .q, .e] 14 [0, 1, 0, 0, 8, 24, 60, 0, 252, 508, 0, 0, 2048, 7168, 16383, 32767] [] (by kernel_rfl) _ rfl [0, 1, 2, 3, 4, 5, 6, 7, 8, 9, 10, 11, 12, 13] rfl (by simp) ?_
          refine lexQ rfl rfl rfl rfl (fun H hM => (yFieldAddr rfl Try.underlying27 rfl Try.sizeOf22 rfl rfl)) ?_
          refine lexQ rfl rfl rfl rfl (fun H hM => (yLoad rfl Try.underlying22 rfl rfl (hM.ext.cell (st2.b5.cell rfl)))) ?_
          refine lexQ rfl rfl rfl rfl (fun H hM => (yMove (v := .int _ _) rfl rfl)) ?_
          refine lexQ rfl rfl rfl rfl (fun H hM => (yFieldAddr rfl Try.underlying27 rfl Try.sizeOf3 rfl rfl)) ?_
          refine lexQ rfl rfl rfl rfl (fun H hM => (yLoad rfl Try.underlying3 rfl rfl (hM.ext.cell (sd2.b8.cell rfl)))) ?_
          refine lexQ rfl rfl rfl rfl (fun H hM => (yAddE rfl rfl rfl (by unfold In64; omega) hv.succ)) ?_
          refine lexQ rfl rfl rfl rfl (fun H hM => (yMul rfl rfl rfl (mul_in (by dsimp only; omega) d3))) ?_
          refine lexQ rfl rfl rfl rfl (fun H hM => (yMove (v := .int _ _) rfl rfl)) ?_
          refine lexQ rfl rfl rfl rfl (fun H hM => (yAdd rfl rfl rfl (by dsimp only; exact add_in (by omega) d3 (by omega)))) ?_
          refine lexQ rfl rfl rfl rfl (fun H hM => (yAddE rfl rfl rfl (by have := mul25 (a := i) (b := dm z) (by omega) d3; dsimp only; rw [idx_e]; unfold In64; omega) (show (i : Int) * (dm z : Int) + (k : Int) + 1 = ((i * dm z + (k + 1) : Nat) : Int) by rw [idx_e]; omega))) ?_
          refine lexQ rfl rfl rfl rfl (fun H hM => (yMove (v := .int _ _) rfl rfl)) ?_
          refine lexQ rfl rfl rfl rfl (fun H hM => (yMove (v := .int _ _) rfl rfl)) ?_
          refine lexQ rfl rfl rfl rfl (fun H hM => (yAddE rfl rfl rfl (by unfold In64; omega) (Int.natCast_succ k).symm)) ?_
          -- e slot 68: call F42<farandole/zone.full> t65 t67
          refine lexX0 rfl rfl rfl rfl rfl (by simp) (fun hM68 => stepCall rfl Try.call42 rfl ?_)
          refine (full_c i (k + 1) _).mono ?_
          rintro w _ ⟨rfl, ee⟩
          obtain rfl := ee.symm
          clear ee
          refine ⟨Ext.refl _, fun _ => ?_⟩
          -- tail
          refine lexNil0 rfl (fun hM => ?_)
          refine seqQ rfl rfl (yIdx1 rfl Try.underlying22 Try.sizeOf3 rfl rfl rfl (by rw [hll]; exact ix2)) ?_
          -- e slot None: store T3 t69 t68
          refine seqE0 rfl rfl (stepStoreOwn st2.own rfl Try.sizeOf3 rfl rfl rfl rfl (by rw [hfl2]; exact ix2) ?_)
          intro H9 hown9 hK9
          refine seqNil ?_
          refine hF19 _ _ ?_; clear hF19
          refine wpRegion ?_
          refine seqQ rfl rfl (yAdd rfl rfl rfl (by unfold In64; omega)) ?_
          refine seqQ rfl rfl (yMove (v := .int _ _) rfl rfl) ?_
          refine seqNil ?_
          -- end loop
          exact loopEnd (i + 1, _) (by repeat (first | (with_reducible exact Agree.refl _ _) | refine Agree.upd ?_ rfl | refine Agree.over ?_ rfl)) (by dsimp only; omega) ⟨rfl, trivial⟩ ⟨hi, hf2.col hk hi, st2.store hown9 hK9, sd2.store hK9⟩
        · skip
          have ei : i = dm z := by dsimp only at hlt; omega
          subst ei
          have hK := hf.done
          subst hK
          refine wpExit ?_
          refine hF15 _ _ ?_; clear hF15
          refine wpSeq fun F22 hF22 => ?_
          refine wpRegion ?_
          refine seqQ rfl rfl (yLoadB st1.b5 rfl Try.underlying27 rfl Try.sizeOf27 rfl) ?_
          -- e slot 73: call F14<farandole/zone.Close> t72
          refine seqE rfl rfl (stepCall rfl Try.call14 rfl ?_)
          have rK := (Own.rd st1.own).2
          have em := st1.m_eq
          have hc := close_c ⟨z.N, forL (dm z) L (k + 1)⟩ (some p) ca' Hi rK h8
          rw [em]
          refine hc.mono ?_
          rintro v Hd ⟨hxd, u, rfl, A2, ca2, rfl, ho2⟩
          refine seqQ rfl rfl (yMove (v := .tuple _) rfl rfl) ?_
          refine seqQ rfl rfl (yExtract (v := .agg _) rfl rfl rfl) ?_
          refine seqQ rfl rfl (yExtract (v := .bool _) rfl rfl rfl) ?_
          refine seqN rfl rfl (nAlloc rfl Try.zeroValue27 rfl) (fun g9 H9 hx9 hB9 hg9 hl9 => ?_)
          -- e slot None: store T27 t9 t74
          refine seqE0 rfl rfl (stepStoreB rfl (by kernel_rfl) rfl rfl rfl hB9 rfl ?_)
          intro H9 hB9 hK9
          have x9 := afterStore hxd hx9 hg9 hK9
          have ho9 := ownStore ho2 hx9 hg9 hK9
          have l9 := st1.b2.lt
          have s9 := st1.ext.size
          refine seqQ rfl rfl (yAssign (v := .bool _) rfl rfl) ?_
          refine seqNil ?_
          refine hF22 _ _ ?_; clear hF22
          refine wpSeq fun F23 hF23 => ?_
          refine wpRegion ?_
          refine seqQ rfl rfl (yLoadB hB9 rfl Try.underlying27 rfl Try.sizeOf27 rfl) ?_
          -- e slot None: store T27 t4 t76
          refine seqE0 rfl rfl (stepStoreB rfl (by kernel_rfl) rfl rfl rfl (st1.b2.ext x9) rfl ?_)
          intro Hm hBm hKm
          refine seqQ rfl rfl (yAssign (v := .int _ _) rfl rfl) ?_
          refine seqNil ?_
          refine hF23 _ _ ?_; clear hF23
          -- ret
          refine wpRet (finR2 rfl (resC Try.underlying27 rfl (by kernel_rfl) rfl hBm) (resT (v := .int _ _) rfl) ?_)
          rw [forZ_some hv hx e]
          refine ⟨(st1.ext.trans x9).mine hKm (by simpa using q4), _, rfl, ?_⟩
          exact (ZO.keep ⟨A2, ca2, rfl, ho9⟩ hKm l9).fresh s9
set_option maxRecDepth 100000 in
theorem rForget_c (z : Zn) (x : Int) (A : Option Addr) (ca : Nat) (H : Heap) (hA : Rd eInt H A z.b) (h8 : z.N ≤ 8) :
    CallsH Try.prog 36 [.agg (znC z A ca).toArray, .int .i64 x] H fun v H' => Ext H H' ∧ ∃ u, v = .tuple #[u, .int .i64 (forZ z x).2] ∧ ZO H' H.size u (forZ z x).1 := by
  refine callsH_of Try.func36 rfl Try.ntmps36 (Nat.le_of_ble_eq_true rfl) ?_
  refine wpSeq fun F1 hF1 => ?_
  refine wpRegion ?_
  refine seqN rfl rfl (nBoxA rfl rfl) (fun g2 H2 hx2 hB2 hg2 hl2 => ?_)
  refine seqN rfl rfl (nAlloc rfl Try.zeroValue24 rfl) (fun g4 H4 hx4 hB4 hg4 hl4 => ?_)
  refine seqQ rfl rfl (yAssign (v := .int _ _) rfl rfl) ?_
  refine seqNil ?_
  refine hF1 _ _ ?_; clear hF1
  refine wpSeq fun F2 hF2 => ?_
  refine wpBlock ?_
  refine wpSeq fun F3 hF3 => ?_
  refine wpRegion ?_
  refine seqQ rfl rfl (yLoadB (hB2.ext hx4) rfl Try.underlying24 rfl Try.sizeOf24 rfl) ?_
  -- e slot 14: call F28<farandole/farandoleref13.Valid> t13
  refine seqE rfl rfl (stepCall rfl Try.call28 rfl ?_)
  refine (rvalid_c z A ca _ ((hA.ext hx2).ext hx4)).mono ?_
  rintro v H5 ⟨rfl, hx5⟩
  have hE := (hx2.trans hx4).trans hx5
  have q4 : H.size ≤ g4 := by have := hx2.size; omega
  replace hB2 := (hB2.ext hx4).ext hx5
  replace hB4 := hB4.ext hx5
  clear hx2 hx4 hx5
  refine seqQ rfl rfl (yNot rfl rfl) ?_
  refine seqQ rfl rfl (yAssign (v := .bool _) rfl rfl) ?_
  refine seqNil ?_
  refine hF3 _ _ ?_; clear hF3
  -- if t12
  refine wpCond rfl (fun hv => ?_) (fun hv => ?_)
  · skip
    have hv : ¬ ValZ z := by simpa using hv
    refine wpSeq fun F4 hF4 => ?_
    refine wpRegion ?_
    refine seqQ rfl rfl (yBuild (pl := [(0, 1), (1, 1)]) (vs := []) rfl Try.underlying24 Try.zeroValue24 rfl (by unfold Places; kernel_rfl) rfl rfl) ?_
    -- e slot None: store T24 t4 t16
    refine seqE0 rfl rfl (stepStoreB rfl (by kernel_rfl) rfl rfl rfl hB4 rfl ?_)
    intro H6 hB6 hK6
    refine seqQ rfl rfl (yAssign (v := .int _ _) rfl rfl) ?_
    refine seqNil ?_
    refine hF4 _ _ ?_; clear hF4
    -- ret
    refine wpRet (finR2 rfl (resC Try.underlying24 rfl (by kernel_rfl) rfl hB6) (resT (v := .int _ _) rfl) ?_)
    rw [forZ_bad hv]
    exact ⟨hE.mine hK6 (by simpa using q4), _, rfl, ZO.zero _ _⟩
  · skip
    have hv : ValZ z := by simpa using hv
    obtain ⟨d1, d2, d3, d4⟩ := hv.dim
    refine wpSeq fun F5 hF5 => ?_
    refine wpRegion ?_
    refine seqQ rfl rfl (yMove (v := .int _ _) rfl rfl) ?_
    refine seqQ rfl rfl (yLss rfl rfl rfl) ?_
    -- guard t20
    refine seqMeet 8 [20, 21, 22, 23, 24, 25] 25 (decide (x < 0 ∨ z.N ≤ x)) (fun hm6 => ?_) (fun J6 => ?_)
    · skip
      first | refine seqG rfl rfl rfl rfl (fun h20 => ?_) (fun h20 => ?_) | refine seqGB rfl rfl rfl rfl (fun h20 => ?_) (fun h20 => ?_)
      · skip
        refine seqU rfl rfl ?_
        refine seqU rfl rfl ?_
        refine seqU rfl rfl ?_
        refine seqU rfl rfl ?_
        refine seqQ rfl rfl (yPickT (v := .bool _) rfl rfl rfl) ?_
        exact hm6 _ (by repeat (first | (with_reducible exact Agree.refl _ _) | refine Agree.upd ?_ rfl | refine Agree.over ?_ rfl)) (by show Value.bool _ = Value.bool _; congr 1; grind)
      · skip
        refine seqQ rfl rfl (yMove (v := .int _ _) rfl rfl) ?_
        refine seqQ rfl rfl (yFieldAddr rfl Try.underlying24 rfl Try.sizeOf3 rfl rfl) ?_
        refine seqQ rfl rfl (yLoad rfl Try.underlying3 rfl rfl (hB2.cell rfl)) ?_
        refine seqQ rfl rfl (yGeq rfl rfl rfl) ?_
        refine seqQ rfl rfl (yPickF (v := .bool _) rfl rfl rfl) ?_
        exact hm6 _ (by repeat (first | (with_reducible exact Agree.refl _ _) | refine Agree.upd ?_ rfl | refine Agree.over ?_ rfl)) (by show Value.bool _ = Value.bool _; congr 1; grind)
    refine seqQ rfl rfl (yAssign (v := .bool _) rfl rfl) ?_
    refine seqNil ?_
    refine hF5 _ _ ?_; clear hF5
    -- if t17
    refine wpIf rfl (fun hx => ?_) (fun hx => ?_)
    · skip
      refine wpSeq fun F7 hF7 => ?_
      refine wpRegion ?_
      refine seqQ rfl rfl (yBuild (pl := [(0, 1), (1, 1)]) (vs := []) rfl Try.underlying24 Try.zeroValue24 rfl (by unfold Places; kernel_rfl) rfl rfl) ?_
      -- e slot None: store T24 t4 t26
      refine seqE0 rfl rfl (stepStoreB rfl (by kernel_rfl) rfl rfl rfl hB4 rfl ?_)
      intro H6 hB6 hK6
      refine seqQ rfl rfl (yAssign (v := .int _ _) rfl rfl) ?_
      refine seqNil ?_
      refine hF7 _ _ ?_; clear hF7
      -- ret
      refine wpRet (finR2 rfl (resC Try.underlying24 rfl (by kernel_rfl) rfl hB6) (resT (v := .int _ _) rfl) ?_)
      rw [forZ_rng hv hx]
      exact ⟨hE.mine hK6 (by simpa using q4), _, rfl, ZO.zero _ _⟩
    · skip
      obtain ⟨k, rfl⟩ := Int.eq_ofNat_of_zero_le (show 0 ≤ x by omega)
      have hk : k + 1 < dm z := by omega
      refine wpSkip ?_
      refine hF2 _ _ ?_; clear hF2
      refine wpSeq fun F8 hF8 => ?_
      refine wpRegion ?_
      refine seqQ rfl rfl (yLoadB hB2 rfl Try.underlying24 rfl Try.sizeOf24 rfl) ?_
      -- e slot 29: call F16<farandole/farandoleref13.Close> t28
      refine seqE rfl rfl (stepCall rfl Try.call16 rfl ?_)
      have hc := rClose_c z A ca _ (hA.ext hE) h8
      rcases closeZ_cases z with ⟨e, _⟩ | ⟨L, e, -, hL⟩
      · skip
        rw [e] at hc
        refine hc.mono ?_
        rintro v Hc ⟨hxc, u, rfl, A', ca', rfl, ho⟩
        refine seqQ rfl rfl (yMove (v := .tuple _) rfl rfl) ?_
        refine seqQ rfl rfl (yExtract (v := .agg _) rfl rfl rfl) ?_
        refine seqQ rfl rfl (yExtract (v := .bool _) rfl rfl rfl) ?_
        refine seqN rfl rfl (nAlloc rfl Try.zeroValue24 rfl) (fun g6 H6 hx6 hB6 hg6 hl6 => ?_)
        -- e slot None: store T24 t6 t30
        refine seqE0 rfl rfl (stepStoreB rfl (by kernel_rfl) rfl rfl rfl hB6 rfl ?_)
        intro H7 hB7 hK7
        have x7 := afterStore hxc hx6 hg6 hK7
        replace hE := hE.trans x7
        replace hB2 := hB2.ext x7
        replace hB4 := hB4.ext x7
        have l4 := hB4.lt
        have sE := hE.size
        refine seqQ rfl rfl (yAssign (v := .bool _) rfl rfl) ?_
        refine seqNil ?_
        refine hF8 _ _ ?_; clear hF8
        refine wpSeq fun F9 hF9 => ?_
        refine wpSeq fun F10 hF10 => ?_
        refine wpRegion ?_
        refine seqQ rfl rfl (yMove (v := .bool _) rfl rfl) ?_
        refine seqQ rfl rfl (yNot rfl rfl) ?_
        refine seqNil ?_
        refine hF10 _ _ ?_; clear hF10
        -- if t33
        refine wpT rfl ?_
        refine wpSeq fun F11 hF11 => ?_
        refine wpRegion ?_
        refine seqQ rfl rfl (yFieldAddr rfl Try.underlying24 rfl Try.sizeOf3 rfl rfl) ?_
        refine seqQ rfl rfl (yLoad rfl Try.underlying3 rfl rfl (hB2.cell rfl)) ?_
        -- e slot 36: call F53<farandole/farandoleref13.Empty> t35
        refine seqE rfl rfl (stepCall rfl Try.call53 rfl ?_)
        refine (rEmpty_c z.N _ (by omega) (by omega)).mono ?_
        rintro v Hn ⟨hxn, An, cn, rfl, hon⟩
        -- e slot None: store T24 t4 t36
        refine seqE0 rfl rfl (stepStoreB rfl (by kernel_rfl) rfl rfl rfl (hB4.ext hxn) rfl ?_)
        intro Hm hBm hKm
        refine seqQ rfl rfl (yAssign (v := .int _ _) rfl rfl) ?_
        refine seqNil ?_
        refine hF11 _ _ ?_; clear hF11
        -- ret
        refine wpRet (finR2 rfl (resC Try.underlying24 rfl (by kernel_rfl) rfl hBm) (resT (v := .int _ _) rfl) ?_)
        rw [forZ_none hv hx e]
        refine ⟨(hE.trans hxn).mine hKm (by simpa using q4), _, rfl, ?_⟩
        exact (ZO.keep ⟨An, cn, rfl, hon⟩ hKm l4).fresh sE
      · skip
        rw [e] at hc
        refine hc.mono ?_
        rintro v Hc ⟨hxc, u, rfl, A', ca', rfl, ho⟩
        have hll := hL.len
        have hl0 : 0 < L.length := by rw [hll]; exact Nat.mul_pos d2 d2
        have l4 := hB4.lt
        have sE := hE.size
        have sxc := hxc.size
        have hE5 := hE
        have l2b := hB2.lt
        refine seqQ rfl rfl (yMove (v := .tuple _) rfl rfl) ?_
        refine seqQ rfl rfl (yExtract (v := .agg _) rfl rfl rfl) ?_
        refine seqQ rfl rfl (yExtract (v := .bool _) rfl rfl rfl) ?_
        refine seqN rfl rfl (nAlloc rfl Try.zeroValue24 rfl) (fun g6 H6 hx6 hB6 hg6 hl6 => ?_)
        -- e slot None: store T24 t6 t30
        refine seqE0 rfl rfl (stepStoreB rfl (by kernel_rfl) rfl rfl rfl hB6 rfl ?_)
        intro H7 hB7 hK7
        have x7 := afterStore hxc hx6 hg6 hK7
        have ho7 := ownStore ho hx6 hg6 hK7
        replace hE := hE.trans x7
        replace hB2 := hB2.ext x7
        replace hB4 := hB4.ext x7
        obtain ⟨p, rfl, hp0⟩ := (Own.rd ho7).2.at1 hl0
        have hpb := ho.lt p.block rfl
        have st : ZSt H g4 g6 24 z.N p L.length ca' L H7 := ⟨hE, ho7.mono (by omega), hB4, hB7, by omega, by omega, by omega, q4⟩
        have sd : Side g2 24 p (znC z A ca) A z.b H7 := Side.mk' hB2 (hA.ext hE5) x7 hpb.1 (by have := l2b; omega)
        clear hxc hx6 hK7 x7 hc hB6 hB7 hB4 hB2 ho ho7 hp0
        refine seqQ rfl rfl (yAssign (v := .bool _) rfl rfl) ?_
        refine seqNil ?_
        refine hF8 _ _ ?_; clear hF8
        refine wpSeq fun F12 hF12 => ?_
        refine wpSeq fun F13 hF13 => ?_
        refine wpRegion ?_
        refine seqQ rfl rfl (yMove (v := .bool _) rfl rfl) ?_
        refine seqQ rfl rfl (yNot rfl rfl) ?_
        refine seqNil ?_
        refine hF13 _ _ ?_; clear hF13
        -- if t33
        refine wpF rfl ?_
        refine wpSkip ?_
        refine hF12 _ _ ?_; clear hF12
        refine wpSeq fun F14 hF14 => ?_
        refine wpRegion ?_
        refine seqQ rfl rfl (yFieldAddr rfl Try.underlying24 rfl Try.sizeOf3 rfl rfl) ?_
        refine seqQ rfl rfl (yLoad rfl Try.underlying3 rfl rfl (sd.b8.cell rfl)) ?_
        refine seqQ rfl rfl (yAddE rfl rfl rfl (by unfold In64; omega) hv.succ) ?_
        refine seqQ rfl rfl (yAssign (v := .int _ _) rfl rfl) ?_
        refine seqNil ?_
        refine hF14 _ _ ?_; clear hF14
        refine wpSeq fun F15 hF15 => ?_
        refine wpSeq fun F16 hF16 => ?_
        refine wpRegion ?_
        refine seqQ rfl rfl (yAssign (v := .int _ _) rfl rfl) ?_
        refine seqNil ?_
        refine hF16 _ _ ?_; clear hF16
        -- loop
        refine wpBlock ?_
        refine wpLoopS [9, 40, 41, 42, 43, 44, 45, 46, 47, 48, 49, 50, 51, 52, 53, 54, 55, 56, 57, 58, 59, 60, 61, 62, 63, 64, 65, 66, 67, 68, 69, 70] (fun x : Nat × List Int => [(9, .int .i64 x.1)]) (fun x H' => x.1 ≤ dm z ∧ ForI (dm z) (k + 1) x.1 x.1 L x.2 ∧ ZSt H g4 g6 24 z.N p L.length ca' x.2 H') (fun x => dm z - x.1) (0, L) ⟨rfl, trivial⟩ ⟨Nat.zero_le _, ⟨hll, fun a b _ _ => by simp⟩, st⟩ ?_
        rintro ⟨i, K⟩ J Hi ⟨hi, hf, st1⟩
        dsimp only at hi hf st1
        clear st sd
        refine wpSeq fun F17 hF17 => ?_
        refine wpSeq fun F18 hF18 => ?_
        refine wpRegion ?_
        refine seqQ rfl rfl (yMove (v := .int _ _) rfl rfl) ?_
        refine seqQ rfl rfl (yMove (v := .int _ _) rfl rfl) ?_
        refine seqQ rfl rfl (yLss rfl rfl rfl) ?_
        refine seqNil ?_
        refine hF18 _ _ ?_; clear hF18
        -- if t42
        refine wpIf rfl (fun hlt => ?_) (fun hlt => ?_)
        · skip
          have hi : i < dm z := by dsimp only at hlt; omega
          have ix1 := idx_lt hk hi
          have ix2 := idx_lt hi hk
          have hfl := hf.1
          have lpb := (st1.own.lt p.block rfl).2
          refine wpSkip ?_
          refine hF17 _ _ ?_; clear hF17
          refine wpSeq fun F19 hF19 => ?_
          refine wpBlock ?_
          refine wpRegionD Try_mixed [.q, .q, .q, .q, .q, .q, .q, .q, .q, .q, .q, .q, .q, .q, .q, .q, .q, .q, .q, .e, .q, .q, .q, .e, .q, .e, .q, .e] 26 [0, 1, 0, 0, 12, 0, 60, 124, 0, 256, 0, 1024, 0, 7168, 0, 31744, 0, 0, 131072, 458752, 0, 1048576, 0, 8323072, 16711935, 33489151, 67108863, 134217727] [p.block] (by kernel_rfl) _ rfl [0, 1, 2, 3, 4, 5, 6, 7, 8, 9, 10, 11, 12, 13, 14, 15, 16, 17, 18, 19, 20, 21, 22, 23, 24, 25] rfl (by simp; omega) ?_
          refine lexQ rfl rfl rfl rfl (fun H hM => (yFieldAddr rfl Try.underlying24 rfl Try.sizeOf22 rfl rfl)) ?_
          refine lexQ rfl rfl rfl rfl (fun H hM => (yLoad rfl Try.underlying22 rfl rfl (hM.cell (st1.b5.cell rfl) (by rw [block_of_add]; have := st1.n5; simpa using this)))) ?_
          refine lexQ rfl rfl rfl rfl (fun H hM => (yMove (v := .int _ _) rfl rfl)) ?_
          refine lexQ rfl rfl rfl rfl (fun H hM => (yMove (v := .int _ _) rfl rfl)) ?_
          refine lexQ rfl rfl rfl rfl (fun H hM => (yMul rfl rfl rfl (mul_in (by dsimp only; omega) d3))) ?_
          refine lexQ rfl rfl rfl rfl (fun H hM => (yMove (v := .int _ _) rfl rfl)) ?_
          refine lexQ rfl rfl rfl rfl (fun H hM => (yAdd rfl rfl rfl (by dsimp only; exact add_in (by omega) d3 (by omega)))) ?_
          refine lexQ rfl rfl rfl rfl (fun H hM => (yAddE rfl rfl rfl (by have := mul25 (a := i) (b := dm z) (by omega) d3; dsimp only; rw [idx_e]; unfold In64; omega) (show (i : Int) * (dm z : Int) + (k : Int) + 1 = ((i * dm z + (k + 1) : Nat) : Int) by rw [idx_e]; omega))) ?_
          refine lexQ rfl rfl rfl rfl (fun H hM => (yFieldAddr rfl Try.underlying24 rfl Try.sizeOf22 rfl rfl)) ?_
          refine lexQ rfl rfl rfl rfl (fun H hM => (yLoad rfl Try.underlying22 rfl rfl (hM.cell (st1.b5.cell rfl) (by rw [block_of_add]; have := st1.n5; simpa using this)))) ?_
          refine lexQ rfl rfl rfl rfl (fun H hM => (yMove (v := .int _ _) rfl rfl)) ?_
          refine lexQ rfl rfl rfl rfl (fun H hM => (yAddE rfl rfl rfl (by unfold In64; omega) (Int.natCast_succ k).symm)) ?_
          refine lexQ rfl rfl rfl rfl (fun H hM => (yMove (v := .int _ _) rfl rfl)) ?_
          refine lexQ rfl rfl rfl rfl (fun H hM => (yMul rfl rfl rfl (mul_in (by omega) d3))) ?_
          refine lexQ rfl rfl rfl rfl (fun H hM => (yMove (v := .int _ _) rfl rfl)) ?_
          refine lexQ rfl rfl rfl rfl (fun H hM => (yAdd rfl rfl rfl (by dsimp only; exact add_in (by omega) d3 (by omega)))) ?_
          refine lexQ rfl rfl rfl rfl (fun H hM => (yMove (v := .int _ _) rfl rfl)) ?_
          refine lexQ rfl rfl rfl rfl (fun H hM => (yMove (v := .int _ _) rfl rfl)) ?_
          refine lexQ rfl rfl rfl rfl (fun H hM => (yAddE rfl rfl rfl (by unfold In64; omega) (Int.natCast_succ k).symm)) ?_
          -- e slot 64: call F43<farandole/farandoleref13.full> t61 t63
          refine lexX0 rfl rfl rfl rfl rfl (by simp; omega) (fun hM64 => stepCall rfl Try.call43 rfl ?_)
          refine (rfull_c i (k + 1) _).mono ?_
          rintro w _ ⟨rfl, ee⟩
          obtain rfl := ee.symm
          clear ee
          refine ⟨Ext.refl _, fun _ => ?_⟩
          refine lexQ rfl rfl rfl rfl (fun H hM => (yMove (v := .int _ _) rfl rfl)) ?_
          refine lexQ rfl rfl rfl rfl (fun H hM => (yAddE rfl rfl rfl (by unfold In64; omega) (Int.natCast_succ k).symm)) ?_
          refine lexQ rfl rfl rfl rfl (fun H hM => (yMove (v := .int _ _) rfl rfl)) ?_
          -- e slot 68: call F43<farandole/farandoleref13.full> t66 t67
          refine lexX0 rfl rfl rfl rfl rfl (by simp; omega) (fun hM68 => stepCall rfl Try.call43 rfl ?_)
          refine (rfull_c (k + 1) i _).mono ?_
          rintro w _ ⟨rfl, ee⟩
          obtain rfl := ee.symm
          clear ee
          refine ⟨Ext.refl _, fun _ => ?_⟩
          refine lexQ rfl rfl rfl rfl (fun H hM => (yIdx1 rfl Try.underlying22 Try.sizeOf3 rfl rfl rfl (by rw [hll]; exact ix2))) ?_
          -- e slot None: store T3 t69 t64
          refine lexE00 rfl rfl rfl rfl rfl (fun hMNone => stepStoreOwn (st1.own) rfl Try.sizeOf3 rfl rfl rfl rfl (by rw [hfl]; exact ix2) ?_)
          intro H8 hown8 hK8
          refine lexSt hK8 (by simp) (by simp; exact (st1.own.lt p.block rfl).2) ?_
          -- tail
          refine lexNil0 rfl (fun hM => ?_)
          have st2 := st1.store hown8 hK8
          have hf2 := hf.col' hk hi
          have hfl2 := hf2.1
          refine seqQ rfl rfl (yIdx1 rfl Try.underlying22 Try.sizeOf3 rfl rfl idx_e (by rw [hll]; exact ix1)) ?_
          -- e slot None: store T3 t70 t68
          refine seqE0 rfl rfl (stepStoreOwn st2.own rfl Try.sizeOf3 rfl rfl rfl rfl (by rw [hfl2]; exact ix1) ?_)
          intro H9 hown9 hK9
          refine seqNil ?_
          refine hF19 _ _ ?_; clear hF19
          refine wpRegion ?_
          refine seqQ rfl rfl (yMove (v := .int _ _) rfl rfl) ?_
          refine seqQ rfl rfl (yAdd rfl rfl rfl (by unfold In64; omega)) ?_
          refine seqQ rfl rfl (yAssign (v := .int _ _) rfl rfl) ?_
          refine seqNil ?_
          -- end loop
          exact loopEnd (i + 1, _) (by repeat (first | (with_reducible exact Agree.refl _ _) | refine Agree.upd ?_ rfl | refine Agree.over ?_ rfl)) (by dsimp only; omega) ⟨rfl, trivial⟩ ⟨hi, hf2.row' hk hi, st2.store hown9 hK9⟩
        · skip
          have ei : i = dm z := by dsimp only at hlt; omega
          subst ei
          have hK := hf.done
          subst hK
          refine wpExit ?_
          refine hF15 _ _ ?_; clear hF15
          refine wpSeq fun F20 hF20 => ?_
          refine wpRegion ?_
          refine seqQ rfl rfl (yLoadB st1.b5 rfl Try.underlying24 rfl Try.sizeOf24 rfl) ?_
          -- e slot 73: call F16<farandole/farandoleref13.Close> t72
          refine seqE rfl rfl (stepCall rfl Try.call16 rfl ?_)
          have rK := (Own.rd st1.own).2
          have em := st1.m_eq
          have hc := rClose_c ⟨z.N, forL (dm z) L (k + 1)⟩ (some p) ca' Hi rK h8
          rw [em]
          refine hc.mono ?_
          rintro v Hd ⟨hxd, u, rfl, A2, ca2, rfl, ho2⟩
          refine seqQ rfl rfl (yMove (v := .tuple _) rfl rfl) ?_
          refine seqQ rfl rfl (yExtract (v := .agg _) rfl rfl rfl) ?_
          refine seqQ rfl rfl (yExtract (v := .bool _) rfl rfl rfl) ?_
          refine seqN rfl rfl (nAlloc rfl Try.zeroValue24 rfl) (fun g10 H10 hx10 hB10 hg10 hl10 => ?_)
          -- e slot None: store T24 t10 t74
          refine seqE0 rfl rfl (stepStoreB rfl (by kernel_rfl) rfl rfl rfl hB10 rfl ?_)
          intro H9 hB9 hK9
          have x9 := afterStore hxd hx10 hg10 hK9
          have ho9 := ownStore ho2 hx10 hg10 hK9
          have l9 := st1.b2.lt
          have s9 := st1.ext.size
          refine seqQ rfl rfl (yAssign (v := .bool _) rfl rfl) ?_
          refine seqNil ?_
          refine hF20 _ _ ?_; clear hF20
          refine wpSeq fun F21 hF21 => ?_
          refine wpRegion ?_
          refine seqQ rfl rfl (yLoadB hB9 rfl Try.underlying24 rfl Try.sizeOf24 rfl) ?_
          -- e slot None: store T24 t4 t76
          refine seqE0 rfl rfl (stepStoreB rfl (by kernel_rfl) rfl rfl rfl (st1.b2.ext x9) rfl ?_)
          intro Hm hBm hKm
          refine seqQ rfl rfl (yAssign (v := .int _ _) rfl rfl) ?_
          refine seqNil ?_
          refine hF21 _ _ ?_; clear hF21
          -- ret
          refine wpRet (finR2 rfl (resC Try.underlying24 rfl (by kernel_rfl) rfl hBm) (resT (v := .int _ _) rfl) ?_)
          rw [forZ_some hv hx e]
          refine ⟨(st1.ext.trans x9).mine hKm (by simpa using q4), _, rfl, ?_⟩
          exact (ZO.keep ⟨A2, ca2, rfl, ho9⟩ hKm l9).fresh s9
end Go.Proofs.Ytjkbkmbblidipaa
