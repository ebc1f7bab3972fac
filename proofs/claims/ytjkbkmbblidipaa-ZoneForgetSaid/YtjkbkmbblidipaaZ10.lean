/- ZoneClose: the walk. -/
import Derived.Test.YtjkbkmbblidipaaZ9
namespace Go.Proofs.Ytjkbkmbblidipaa
open Go.RowKit

set_option maxRecDepth 100000 in
theorem neB (b : Bool) : (!(b == b)) = false := by cases b <;> rfl
set_option maxRecDepth 100000 in
theorem neI (a : Int) : (!decide (a = a)) = false := by simp
set_option maxRecDepth 100000 in
theorem eqB (b : Bool) : (b == b) = true := by cases b <;> rfl
set_option maxRecDepth 100000 in
theorem eqI (a : Int) : decide (a = a) = true := by simp
set_option maxRecDepth 100000 in
theorem sameB (z : Zn) : decide (z.N = z.N ∧ z.b = z.b) = true := by simp
set_option maxRecDepth 100000 in
theorem closeZ_N {z zc : Zn} {ok : Bool} (h : closeZ z = (zc, ok)) (h8 : z.N ≤ 8) (hl : z.b.length ≤ 1000000000) : zc.N ≤ 8 ∧ zc.b.length ≤ 1000000000 := by
  rcases closeZ_cases z with ⟨e, _⟩ | ⟨L, e, hv, hB⟩
  · rw [e] at h
    injection h with h1 h2
    subst h1
    exact ⟨by decide, by decide⟩
  · rw [e] at h
    injection h with h1 h2
    subst h1
    refine ⟨h8, ?_⟩
    show L.length ≤ _
    rw [hB.len, ← hv.dim.2.2.2]
    exact hl
set_option maxRecDepth 100000 in
theorem closeZ_again {z zc : Zn} (h : closeZ z = (zc, true)) : closeZ zc = (zc, true) := by
  rcases closeZ_cases z with ⟨e, _⟩ | ⟨L, e, hv, hB⟩
  · rw [e] at h
    exact absurd (congrArg Prod.snd h) (by simp)
  · rw [e] at h
    injection h with h1 h2
    subst h1
    exact hB.again hv
set_option maxRecDepth 100000 in
theorem modZ_len (z : Zn) (h8 : z.N ≤ 8) : (modZ z).1.length ≤ 8 := by
  unfold modZ
  split
  · rw [modL_len]
    unfold dm
    omega
  · simp
set_option maxRecDepth 100000 in
theorem zClose_walk (z : Zn) (x : Int) (A : Option Addr) (ca : Nat) (H : Heap) (hA : Rd eInt H A z.b) :
    CallsH Try.prog 3 [.agg (znC z A ca).toArray, .int .i64 x] H fun v H' => v = .bool true ∧ Ext H H' := by
  obtain ⟨⟨zc, ok⟩, hcz⟩ : ∃ r, closeZ z = r := ⟨_, rfl⟩
  obtain ⟨⟨ml, mo⟩, hmz⟩ : ∃ r, modZ z = r := ⟨_, rfl⟩
  obtain ⟨⟨r1, r2, r3⟩, hrz⟩ : ∃ r, rngZ z x = r := ⟨_, rfl⟩
  refine callsH_of Try.func3 rfl Try.ntmps3 (Nat.le_of_ble_eq_true rfl) ?_
  refine wpSeq fun F1 hF1 => ?_
  refine wpRegion ?_
  refine seqN rfl rfl (nBoxA rfl rfl) (fun g2 H2 hx2 hB2 hg2 hl2 => ?_)
  refine seqQ rfl rfl (yAssign (v := .bool _) rfl rfl) ?_
  refine seqNil ?_
  refine hF1 _ _ ?_; clear hF1
  refine wpSeq fun F2 hF2 => ?_
  refine wpSeq fun F3 hF3 => ?_
  refine wpRegion ?_
  -- e slot 22: call F12<farandole/farandolelaw13.awake> 
  refine seqE rfl rfl (stepCall rfl Try.call12 rfl ?_)
  refine (awake_c _).mono ?_
  rintro v Ha ⟨rfl, hxa⟩
  refine seqQ rfl rfl (yNot rfl rfl) ?_
  refine seqQ rfl rfl (yMove (v := .bool false) rfl rfl) ?_
  refine seqQ rfl rfl (yLoadB (hB2.ext hxa) rfl Try.underlying24 rfl Try.sizeOf24 rfl) ?_
  -- e slot 26: call F13<farandole/farandoleref13.Few> t25
  refine seqE rfl rfl (stepCall rfl Try.call13 rfl ?_)
  refine (few_c z A ca _).mono ?_
  rintro v Hf ⟨rfl, hxf⟩
  have hE := (hx2.trans hxa).trans hxf
  replace hB2 := (hB2.ext hxa).ext hxf
  clear hx2 hxa hxf
  refine seqQ rfl rfl (yNot rfl rfl) ?_
  refine seqQ rfl rfl (yPickF (v := .bool _) rfl rfl rfl) ?_
  refine seqNil ?_
  refine hF3 _ _ ?_; clear hF3
  -- if t28
  refine wpCond rfl (fun hf => ?_) (fun hf => ?_)
  · skip
    refine wpSeq fun F4 hF4 => ?_
    refine wpRegion ?_
    -- e slot 29: call F12<farandole/farandolelaw13.awake> 
    refine seqE rfl rfl (stepCall rfl Try.call12 rfl ?_)
    refine (awake_c _).mono ?_
    rintro v Ha ⟨rfl, hxa⟩
    refine seqQ rfl rfl (yAssign (v := .bool _) rfl rfl) ?_
    refine seqNil ?_
    refine hF4 _ _ ?_; clear hF4
    -- ret
    refine wpRet (fin1 (v := .bool _) rfl rfl ?_)
    exact ⟨rfl, hE.trans hxa⟩
  · skip
    have hf : z.N ≤ 8 ∧ z.b.length ≤ 100 := by simpa using hf
    obtain ⟨h8, hl⟩ := hf
    obtain ⟨h8c, hlc⟩ := closeZ_N hcz h8 (by omega)
    have hml := modZ_len z h8
    rw [hmz] at hml
    dsimp only at hml
    refine wpSkip ?_
    refine hF2 _ _ ?_; clear hF2
    refine wpSeq fun F5 hF5 => ?_
    refine wpRegion ?_
    refine seqQ rfl rfl (yLoadB hB2 rfl Try.underlying24 rfl Try.sizeOf24 rfl) ?_
    -- e slot 32: call F15<farandole/farandolelaw13.own> t31
    refine seqE rfl rfl (stepCall rfl Try.call15 rfl ?_)
    refine (own_c z A ca _).mono ?_
    rintro v H1 ⟨rfl, hx1⟩
    -- e slot 33: call F14<farandole/zone.Close> t32
    refine seqE rfl rfl (stepCall rfl Try.call14 rfl ?_)
    have hc := close_c z A ca _ ((hA.ext hE).ext hx1) h8
    rw [hcz] at hc
    dsimp only at hc
    refine hc.mono ?_
    rintro v H3 ⟨hx3, u, rfl, A1, c1, rfl, ho1⟩
    have r1' := (Own.rd ho1).2
    refine seqQ rfl rfl (yMove (v := .tuple _) rfl rfl) ?_
    refine seqQ rfl rfl (yExtract (v := .agg _) rfl rfl rfl) ?_
    refine seqQ rfl rfl (yExtract (v := .bool _) rfl rfl rfl) ?_
    refine seqN rfl rfl (nAlloc rfl Try.zeroValue27 rfl) (fun g5 H5 hx5 hB5 hg5 hl5 => ?_)
    -- e slot None: store T27 t5 t34
    refine seqE0 rfl rfl (stepStoreB rfl (by kernel_rfl) rfl rfl rfl hB5 rfl ?_)
    intro H4 hB4 hK4
    have x4 := afterStore (hx1.trans hx3) hx5 hg5 hK4
    have rdc := rdStore r1' hx5 hg5 hK4
    replace hB2 := blkStore ((hB2.ext hx1).ext hx3) hx5 hg5 hK4
    replace hE := hE.trans x4
    clear hx1 hx3 hx5 hK4 x4 ho1 r1' hc hB5
    refine seqQ rfl rfl (yAssign (v := .bool _) rfl rfl) ?_
    refine seqNil ?_
    refine hF5 _ _ ?_; clear hF5
    refine wpSeq fun F6 hF6 => ?_
    refine wpRegion ?_
    refine seqQ rfl rfl (yLoadB hB2 rfl Try.underlying24 rfl Try.sizeOf24 rfl) ?_
    -- e slot 38: call F16<farandole/farandoleref13.Close> t37
    refine seqE rfl rfl (stepCall rfl Try.call16 rfl ?_)
    have hc := rClose_c z A ca _ (hA.ext hE) h8
    rw [hcz] at hc
    dsimp only at hc
    refine hc.mono ?_
    rintro v H6 ⟨hx6, u, rfl, A2, c2, rfl, ho2⟩
    have r2' := (Own.rd ho2).2
    refine seqQ rfl rfl (yMove (v := .tuple _) rfl rfl) ?_
    refine seqQ rfl rfl (yExtract (v := .agg _) rfl rfl rfl) ?_
    refine seqQ rfl rfl (yExtract (v := .bool _) rfl rfl rfl) ?_
    refine seqN rfl rfl (nAlloc rfl Try.zeroValue24 rfl) (fun g7 H7 hx7 hB7 hg7 hl7 => ?_)
    -- e slot None: store T24 t7 t39
    refine seqE0 rfl rfl (stepStoreB rfl (by kernel_rfl) rfl rfl rfl hB7 rfl ?_)
    intro H8 hB8 hK8
    have x8 := afterStore hx6 hx7 hg7 hK8
    have rdc2 := rdStore r2' hx7 hg7 hK8
    replace hB2 := hB2.ext x8
    replace hB4 := hB4.ext x8
    replace rdc := rdc.ext x8
    replace hE := hE.trans x8
    clear hx6 hx7 hK8 x8 ho2 r2' hc hB7
    refine seqQ rfl rfl (yAssign (v := .bool _) rfl rfl) ?_
    refine seqNil ?_
    refine hF6 _ _ ?_; clear hF6
    refine wpSeq fun F7 hF7 => ?_
    refine wpRegion ?_
    refine seqQ rfl rfl (yLoadB hB2 rfl Try.underlying24 rfl Try.sizeOf24 rfl) ?_
    -- e slot 43: call F15<farandole/farandolelaw13.own> t42
    refine seqE rfl rfl (stepCall rfl Try.call15 rfl ?_)
    refine (own_c z A ca _).mono ?_
    rintro v H1 ⟨rfl, hx1⟩
    -- e slot 44: call F17<farandole/zone.Model> t43
    refine seqE rfl rfl (stepCall rfl Try.call17 rfl ?_)
    have hc := model_c z A ca _ ((hA.ext hE).ext hx1) h8
    rw [hmz] at hc
    dsimp only at hc
    refine hc.mono ?_
    rintro v H3 ⟨hx3, u, rfl, ho⟩
    obtain ⟨A3, c3, rfl, -, rdm, -⟩ := ho.form
    have x := hx1.trans hx3
    replace hB2 := hB2.ext x
    replace hB4 := hB4.ext x
    replace hB8 := hB8.ext x
    replace rdc := rdc.ext x
    replace rdc2 := rdc2.ext x
    replace hE := hE.trans x
    clear hx1 hx3 x ho hc
    refine seqQ rfl rfl (yMove (v := .tuple _) rfl rfl) ?_
    refine seqQ rfl rfl (yExtract (v := .slice _ _ _) rfl rfl rfl) ?_
    refine seqQ rfl rfl (yExtract (v := .bool _) rfl rfl rfl) ?_
    refine seqQ rfl rfl (yAssign (v := .slice _ _ _) rfl rfl) ?_
    refine seqQ rfl rfl (yAssign (v := .bool _) rfl rfl) ?_
    refine seqNil ?_
    refine hF7 _ _ ?_; clear hF7
    refine wpSeq fun F8 hF8 => ?_
    refine wpRegion ?_
    refine seqQ rfl rfl (yLoadB hB2 rfl Try.underlying24 rfl Try.sizeOf24 rfl) ?_
    -- e slot 49: call F18<farandole/farandoleref13.Model> t48
    refine seqE rfl rfl (stepCall rfl Try.call18 rfl ?_)
    have hc := rModel_c z A ca _ (hA.ext hE) h8
    rw [hmz] at hc
    dsimp only at hc
    refine hc.mono ?_
    rintro v H3 ⟨x, u, rfl, ho⟩
    obtain ⟨A5, c5, rfl, -, rdm2, -⟩ := ho.form
    replace hB2 := hB2.ext x
    replace hB4 := hB4.ext x
    replace hB8 := hB8.ext x
    replace rdc := rdc.ext x
    replace rdc2 := rdc2.ext x
    replace rdm := rdm.ext x
    replace hE := hE.trans x
    clear x ho hc
    refine seqQ rfl rfl (yMove (v := .tuple _) rfl rfl) ?_
    refine seqQ rfl rfl (yExtract (v := .slice _ _ _) rfl rfl rfl) ?_
    refine seqQ rfl rfl (yExtract (v := .bool _) rfl rfl rfl) ?_
    refine seqQ rfl rfl (yAssign (v := .slice _ _ _) rfl rfl) ?_
    refine seqQ rfl rfl (yAssign (v := .bool _) rfl rfl) ?_
    refine seqNil ?_
    refine hF8 _ _ ?_; clear hF8
    refine wpSeq fun F9 hF9 => ?_
    refine wpRegion ?_
    refine seqQ rfl rfl (yLoadB hB2 rfl Try.underlying24 rfl Try.sizeOf24 rfl) ?_
    -- e slot 54: call F15<farandole/farandolelaw13.own> t53
    refine seqE rfl rfl (stepCall rfl Try.call15 rfl ?_)
    refine (own_c z A ca _).mono ?_
    rintro v H1 ⟨rfl, hx1⟩
    refine seqQ rfl rfl (yMove (v := .int _ _) rfl rfl) ?_
    -- e slot 56: call F19<farandole/zone.Range> t54 t55
    refine seqE rfl rfl (stepCall rfl Try.call19 rfl ?_)
    have hc := range_c z x A ca _ ((hA.ext hE).ext hx1) h8
    rw [hrz] at hc
    dsimp only at hc
    refine hc.mono ?_
    rintro v H3 ⟨hx3, rfl⟩
    refine seqQ rfl rfl (yMove (v := .tuple _) rfl rfl) ?_
    refine seqQ rfl rfl (yExtract (v := .int _ _) rfl rfl rfl) ?_
    refine seqQ rfl rfl (yExtract (v := .int _ _) rfl rfl rfl) ?_
    refine seqQ rfl rfl (yExtract (v := .bool _) rfl rfl rfl) ?_
    refine seqQ rfl rfl (yAssign (v := .int _ _) rfl rfl) ?_
    refine seqQ rfl rfl (yAssign (v := .int _ _) rfl rfl) ?_
    refine seqQ rfl rfl (yAssign (v := .bool _) rfl rfl) ?_
    refine seqNil ?_
    refine hF9 _ _ ?_; clear hF9
    refine wpSeq fun F10 hF10 => ?_
    refine wpRegion ?_
    refine seqQ rfl rfl (yLoadB ((hB2.ext hx1).ext hx3) rfl Try.underlying24 rfl Try.sizeOf24 rfl) ?_
    refine seqQ rfl rfl (yMove (v := .int _ _) rfl rfl) ?_
    -- e slot 63: call F20<farandole/farandoleref13.Range> t61 t62
    refine seqE rfl rfl (stepCall rfl Try.call20 rfl ?_)
    have hc := rRange_c z x A ca _ (((hA.ext hE).ext hx1).ext hx3) h8
    rw [hrz] at hc
    dsimp only at hc
    refine hc.mono ?_
    rintro v H4 ⟨hx4, rfl⟩
    have x := (hx1.trans hx3).trans hx4
    replace hB2 := hB2.ext x
    replace hB4 := hB4.ext x
    replace hB8 := hB8.ext x
    replace rdc := rdc.ext x
    replace rdc2 := rdc2.ext x
    replace rdm := rdm.ext x
    replace rdm2 := rdm2.ext x
    replace hE := hE.trans x
    clear hx1 hx3 hx4 x hc
    refine seqQ rfl rfl (yMove (v := .tuple _) rfl rfl) ?_
    refine seqQ rfl rfl (yExtract (v := .int _ _) rfl rfl rfl) ?_
    refine seqQ rfl rfl (yExtract (v := .int _ _) rfl rfl rfl) ?_
    refine seqQ rfl rfl (yExtract (v := .bool _) rfl rfl rfl) ?_
    refine seqQ rfl rfl (yAssign (v := .int _ _) rfl rfl) ?_
    refine seqQ rfl rfl (yAssign (v := .int _ _) rfl rfl) ?_
    refine seqQ rfl rfl (yAssign (v := .bool _) rfl rfl) ?_
    refine seqNil ?_
    refine hF10 _ _ ?_; clear hF10
    refine wpSeq fun F11 hF11 => ?_
    refine wpSeq fun F12 hF12 => ?_
    refine wpRegionD Try_mixed [.q, .q, .q, .q, .q, .e, .q, .e, .q, .q, .q, .q, .q, .q, .q, .q, .q, .q, .q, .q, .q, .q, .q, .q, .q, .q, .q, .q, .q, .q, .q, .q, .q, .q, .q, .q, .q] 35 [0, 0, 3, 7, 15, 31, 15, 127, 255, 511, 1023, 2047, 2047, 8191, 16383, 32767, 65535, 131071, 65535, 327679, 1048575, 2097151, 4194303, 8388607, 8388607, 33554431, 67108863, 134217727, 268435455, 268435455, 1073741823, 2147483647, 4294967295, 8589934591, 8589934591, 34359738367, 68719476735] [] (by kernel_rfl) _ rfl [0, 1, 2, 3, 4, 5, 6, 7, 8, 9, 10, 11, 12, 13, 14, 15, 16, 17, 18, 19, 20, 21, 22, 23, 24, 25, 26, 27, 28, 29, 30, 31, 32, 33, 34] rfl (by simp) ?_
    refine lexQ rfl rfl rfl rfl (fun H hM => (yMove (v := .bool _) rfl rfl)) ?_
    refine lexQ rfl rfl rfl rfl (fun H hM => (yMove (v := .bool _) rfl rfl)) ?_
    refine lexQ rfl rfl rfl rfl (fun H hM => (yNeqB rfl Try.underlying4 rfl rfl)) ?_
    -- guard t70
    rw [neB]
    refine lexQ rfl rfl rfl rfl (fun H hM => (yMove (v := .bool false) rfl rfl)) ?_
    refine lexQ rfl rfl rfl rfl (fun H hM => (yLoadB (hB4.ext hM.ext) rfl Try.underlying27 rfl Try.sizeOf27 rfl)) ?_
    -- e slot 72: call F22<farandole/farandolelaw13.theirs> t71
    refine lexX0 rfl rfl rfl rfl rfl (by simp) (fun hM72 => stepCall rfl Try.call22 rfl ?_)
    refine (theirs_c zc A1 c1 _).mono ?_
    rintro v K1 ⟨rfl, k1⟩
    refine ⟨k1, fun _ => ?_⟩
    refine lexQ rfl rfl rfl rfl (fun H hM => (yLoadB (hB8.ext hM.ext) rfl Try.underlying24 rfl Try.sizeOf24 rfl)) ?_
    -- e slot 74: call F21<farandole/farandoleref13.Same> t72 t73
    refine lexX0 rfl rfl rfl rfl rfl (by simp) (fun hM74 => stepCall rfl Try.call21 rfl ?_)
    refine (same_c zc zc A1 A2 c1 c2 _ (rdc.ext k1) (rdc2.ext k1) hlc).mono ?_
    rintro v K2 ⟨rfl, k2⟩
    refine ⟨k2, fun _ => ?_⟩
    rw [sameB]
    refine lexQ rfl rfl rfl rfl (fun H hM => (yNot rfl rfl)) ?_
    refine lexQ rfl rfl rfl rfl (fun H hM => (yPickF (v := .bool _) rfl rfl rfl)) ?_
    refine lexQ rfl rfl rfl rfl (fun H hM => (yMove (v := .bool false) rfl rfl)) ?_
    refine lexQ rfl rfl rfl rfl (fun H hM => (yMove (v := .bool _) rfl rfl)) ?_
    refine lexQ rfl rfl rfl rfl (fun H hM => (yMove (v := .bool _) rfl rfl)) ?_
    refine lexQ rfl rfl rfl rfl (fun H hM => (yNeqB rfl Try.underlying4 rfl rfl)) ?_
    refine lexQ rfl rfl rfl rfl (fun H hM => (yPickF (v := .bool _) rfl rfl rfl)) ?_
    -- guard t82
    rw [neB]
    refine lexQ rfl rfl rfl rfl (fun H hM => (yMove (v := .bool false) rfl rfl)) ?_
    refine lexQ rfl rfl rfl rfl (fun H hM => (yMove (v := .slice _ _ _) rfl rfl)) ?_
    refine lexQ rfl rfl rfl rfl (fun H hM => (yLen rfl Try.underlying22 rfl)) ?_
    refine lexQ rfl rfl rfl rfl (fun H hM => (yMove (v := .slice _ _ _) rfl rfl)) ?_
    refine lexQ rfl rfl rfl rfl (fun H hM => (yLen rfl Try.underlying22 rfl)) ?_
    refine lexQ rfl rfl rfl rfl (fun H hM => (yNeq rfl rfl rfl)) ?_
    refine lexQ rfl rfl rfl rfl (fun H hM => (yPickF (v := .bool _) rfl rfl rfl)) ?_
    -- guard t89
    rw [neI]
    refine lexQ rfl rfl rfl rfl (fun H hM => (yMove (v := .bool false) rfl rfl)) ?_
    refine lexQ rfl rfl rfl rfl (fun H hM => (yMove (v := .int _ _) rfl rfl)) ?_
    refine lexQ rfl rfl rfl rfl (fun H hM => (yMove (v := .int _ _) rfl rfl)) ?_
    refine lexQ rfl rfl rfl rfl (fun H hM => (yNeq rfl rfl rfl)) ?_
    refine lexQ rfl rfl rfl rfl (fun H hM => (yPickF (v := .bool _) rfl rfl rfl)) ?_
    -- guard t94
    rw [neI]
    refine lexQ rfl rfl rfl rfl (fun H hM => (yMove (v := .bool false) rfl rfl)) ?_
    refine lexQ rfl rfl rfl rfl (fun H hM => (yMove (v := .int _ _) rfl rfl)) ?_
    refine lexQ rfl rfl rfl rfl (fun H hM => (yMove (v := .int _ _) rfl rfl)) ?_
    refine lexQ rfl rfl rfl rfl (fun H hM => (yNeq rfl rfl rfl)) ?_
    refine lexQ rfl rfl rfl rfl (fun H hM => (yPickF (v := .bool _) rfl rfl rfl)) ?_
    -- guard t99
    rw [neI]
    refine lexQ rfl rfl rfl rfl (fun H hM => (yMove (v := .bool false) rfl rfl)) ?_
    refine lexQ rfl rfl rfl rfl (fun H hM => (yMove (v := .bool _) rfl rfl)) ?_
    refine lexQ rfl rfl rfl rfl (fun H hM => (yMove (v := .bool _) rfl rfl)) ?_
    -- tail
    refine lexNil0 rfl (fun hM => ?_)
    replace k2 := k1.trans k2
    replace hB4 := hB4.ext k2
    replace rdc := rdc.ext k2
    replace rdm := rdm.ext k2
    replace rdm2 := rdm2.ext k2
    replace hE := hE.trans k2
    clear k1 k2 hB2 hB8 rdc2
    refine seqQ rfl rfl (yNeqB rfl Try.underlying4 rfl rfl) ?_
    refine seqQ rfl rfl (yPickF (v := .bool _) rfl rfl rfl) ?_
    refine seqNil ?_
    refine hF12 _ _ ?_; clear hF12
    -- if t103
    rw [neB]
    refine wpF rfl ?_
    refine wpSkip ?_
    refine hF11 _ _ ?_; clear hF11
    refine wpSeq fun F13 hF13 => ?_
    refine wpSeq fun F14 hF14 => ?_
    refine wpRegion ?_
    refine seqQ rfl rfl (yMove (v := .slice _ _ _) rfl rfl) ?_
    refine seqQ rfl rfl (yLen rfl Try.underlying22 rfl) ?_
    refine seqQ rfl rfl (yMove (v := .int _ _) rfl rfl) ?_
    refine seqNil ?_
    refine hF14 _ _ ?_; clear hF14
    -- loop
    refine wpBlock ?_
    refine wpLoopS [4, 19, 106, 107, 108, 109, 110, 111, 112, 113, 114, 115, 116, 117, 118] (fun k : Nat => [(106, .int .i64 k)]) (fun k H' => k ≤ ml.length ∧ H' = K2) (fun k => ml.length - k) 0 ⟨rfl, trivial⟩ ⟨Nat.zero_le _, rfl⟩ ?_
    rintro k J _ ⟨hk, e⟩
    obtain rfl := e.symm
    clear e
    refine wpSeq fun F15 hF15 => ?_
    refine wpRegion ?_
    refine seqQ rfl rfl (yLss rfl rfl rfl) ?_
    refine seqNil ?_
    refine hF15 _ _ ?_; clear hF15
    refine wpSeq fun F16 hF16 => ?_
    -- if t107
    refine wpIf rfl (fun hlt => ?_) (fun hlt => ?_)
    · skip
      have hk : k < ml.length := by omega
      obtain ⟨p, rfl, hp⟩ := rdm.at1 hk
      obtain ⟨q, rfl, hq⟩ := rdm2.at1 hk
      refine wpSkip ?_
      refine hF16 _ _ ?_; clear hF16
      refine wpSeq fun F17 hF17 => ?_
      refine wpBlock ?_
      refine wpSeq fun F18 hF18 => ?_
      refine wpRegion ?_
      refine seqQ rfl rfl (yMove (v := .int _ _) rfl rfl) ?_
      refine seqQ rfl rfl (yAssign (v := .int _ _) rfl rfl) ?_
      refine seqNil ?_
      refine hF18 _ _ ?_; clear hF18
      refine wpSeq fun F19 hF19 => ?_
      refine wpRegionD Try_mixed [.q, .q, .q, .q, .q, .q, .q, .q, .q] 8 [0, 0, 3, 7, 0, 0, 48, 112, 255] [] (by kernel_rfl) _ rfl [0, 1, 2, 3, 4, 5, 6, 7] rfl (by simp) ?_
      refine lexQ rfl rfl rfl rfl (fun H hM => (yMove (v := .slice _ _ _) rfl rfl)) ?_
      refine lexQ rfl rfl rfl rfl (fun H hM => (yMove (v := .int _ _) rfl rfl)) ?_
      refine lexQ rfl rfl rfl rfl (fun H hM => (yIdx1 rfl Try.underlying22 Try.sizeOf3 rfl rfl rfl hk)) ?_
      refine lexQ rfl rfl rfl rfl (fun H hM => (yLoad rfl Try.underlying3 rfl rfl (hM.ext.cell hp))) ?_
      refine lexQ rfl rfl rfl rfl (fun H hM => (yMove (v := .slice _ _ _) rfl rfl)) ?_
      refine lexQ rfl rfl rfl rfl (fun H hM => (yMove (v := .int _ _) rfl rfl)) ?_
      refine lexQ rfl rfl rfl rfl (fun H hM => (yIdx1 rfl Try.underlying22 Try.sizeOf3 rfl rfl rfl hk)) ?_
      refine lexQ rfl rfl rfl rfl (fun H hM => (yLoad rfl Try.underlying3 rfl rfl (hM.ext.cell hq))) ?_
      -- tail
      refine lexNil0 rfl (fun hM => ?_)
      refine seqQ rfl rfl (yNeq rfl rfl rfl) ?_
      refine seqNil ?_
      refine hF19 _ _ ?_; clear hF19
      -- if t117
      rw [neI]
      refine wpF rfl ?_
      refine wpSkip ?_
      refine hF17 _ _ ?_; clear hF17
      refine wpRegion ?_
      refine seqQ rfl rfl (yAdd rfl rfl rfl (by unfold In64; omega)) ?_
      refine seqQ rfl rfl (yMove (v := .int _ _) rfl rfl) ?_
      refine seqNil ?_
      -- end loop
      exact loopEnd (k + 1) (by repeat (first | (with_reducible exact Agree.refl _ _) | refine Agree.upd ?_ rfl | refine Agree.over ?_ rfl)) (by omega) ⟨rfl, trivial⟩ ⟨hk, rfl⟩
    · skip
      refine wpExit ?_
      refine hF13 _ _ ?_; clear hF13
      refine wpSeq fun F20 hF20 => ?_
      refine wpRegion ?_
      refine seqQ rfl rfl (yLoadB hB4 rfl Try.underlying27 rfl Try.sizeOf27 rfl) ?_
      -- e slot 121: call F14<farandole/zone.Close> t120
      refine seqE rfl rfl (stepCall rfl Try.call14 rfl ?_)
      have hc := close_c zc A1 c1 _ rdc h8c
      cases ok
      · skip
        refine hc.mono ?_
        rintro v H6 ⟨hx6, u, rfl, A6, c6, rfl, ho6⟩
        refine seqQ rfl rfl (yMove (v := .tuple _) rfl rfl) ?_
        refine seqQ rfl rfl (yExtract (v := .agg _) rfl rfl rfl) ?_
        refine seqQ rfl rfl (yExtract (v := .bool _) rfl rfl rfl) ?_
        refine seqN rfl rfl (nAlloc rfl Try.zeroValue27 rfl) (fun g20 H20 hx20 hB20 hg20 hl20 => ?_)
        -- e slot None: store T27 t20 t122
        refine seqE0 rfl rfl (stepStoreB rfl (by kernel_rfl) rfl rfl rfl hB20 rfl ?_)
        intro H8 hB8 hK8
        have x8 := afterStore hx6 hx20 hg20 hK8
        refine seqQ rfl rfl (yAssign (v := .bool _) rfl rfl) ?_
        refine seqNil ?_
        refine hF20 _ _ ?_; clear hF20
        refine wpSeq fun F21 hF21 => ?_
        refine wpRegionD Try_mixed [.q, .q, .q, .q, .q, .q, .e, .q, .e, .e, .q, .q, .q] 8 [0, 1, 3, 7, 15, 31, 63, 31, 255, 511, 1023, 2047, 4095] [] (by kernel_rfl) _ rfl [0, 1, 2, 3, 4, 5, 6, 7] rfl (by simp) ?_
        refine lexQ rfl rfl rfl rfl (fun H hM => (yMove (v := .bool _) rfl rfl)) ?_
        refine lexQ rfl rfl rfl rfl (fun H hM => (yNot rfl rfl)) ?_
        refine lexQ rfl rfl rfl rfl (fun H hM => (yMove (v := .bool true) rfl rfl)) ?_
        refine lexU rfl rfl rfl ?_
        refine lexU rfl rfl rfl ?_
        refine lexU rfl rfl rfl ?_
        refine lexU rfl rfl rfl ?_
        refine lexU rfl rfl rfl ?_
        -- tail
        refine lexNil0 rfl (fun hM => ?_)
        refine seqU rfl rfl ?_
        refine seqU rfl rfl ?_
        refine seqU rfl rfl ?_
        refine seqQ rfl rfl (yPickT (v := .bool _) rfl rfl rfl) ?_
        refine seqQ rfl rfl (yAssign (v := .bool _) rfl rfl) ?_
        refine seqNil ?_
        refine hF21 _ _ ?_; clear hF21
        -- ret
        refine wpRet (fin1 (v := .bool _) rfl rfl ?_)
        exact ⟨rfl, hE.trans x8⟩
      · skip
        rw [closeZ_again hcz] at hc
        dsimp only at hc
        refine hc.mono ?_
        rintro v H6 ⟨hx6, u, rfl, A6, c6, rfl, ho6⟩
        have r6 := (Own.rd ho6).2
        refine seqQ rfl rfl (yMove (v := .tuple _) rfl rfl) ?_
        refine seqQ rfl rfl (yExtract (v := .agg _) rfl rfl rfl) ?_
        refine seqQ rfl rfl (yExtract (v := .bool _) rfl rfl rfl) ?_
        refine seqN rfl rfl (nAlloc rfl Try.zeroValue27 rfl) (fun g20 H20 hx20 hB20 hg20 hl20 => ?_)
        -- e slot None: store T27 t20 t122
        refine seqE0 rfl rfl (stepStoreB rfl (by kernel_rfl) rfl rfl rfl hB20 rfl ?_)
        intro H8 hB8 hK8
        have x8 := afterStore hx6 hx20 hg20 hK8
        have rd8 := rdStore r6 hx20 hg20 hK8
        refine seqQ rfl rfl (yAssign (v := .bool _) rfl rfl) ?_
        refine seqNil ?_
        refine hF20 _ _ ?_; clear hF20
        refine wpSeq fun F22 hF22 => ?_
        refine wpRegionD Try_mixed [.q, .q, .q, .q, .q, .q, .e, .q, .e, .e, .q, .q, .q] 8 [0, 1, 3, 7, 15, 31, 63, 31, 255, 511, 1023, 2047, 4095] [] (by kernel_rfl) _ rfl [0, 1, 2, 3, 4, 5, 6, 7] rfl (by simp) ?_
        refine lexQ rfl rfl rfl rfl (fun H hM => (yMove (v := .bool _) rfl rfl)) ?_
        refine lexQ rfl rfl rfl rfl (fun H hM => (yNot rfl rfl)) ?_
        refine lexQ rfl rfl rfl rfl (fun H hM => (yMove (v := .bool false) rfl rfl)) ?_
        refine lexQ rfl rfl rfl rfl (fun H hM => (yMove (v := .bool _) rfl rfl)) ?_
        refine lexQ rfl rfl rfl rfl (fun H hM => (yMove (v := .bool true) rfl rfl)) ?_
        refine lexQ rfl rfl rfl rfl (fun H hM => (yLoadB (hB8.ext hM.ext) rfl Try.underlying27 rfl Try.sizeOf27 rfl)) ?_
        -- e slot 130: call F22<farandole/farandolelaw13.theirs> t129
        refine lexX0 rfl rfl rfl rfl rfl (by simp) (fun hM130 => stepCall rfl Try.call22 rfl ?_)
        refine (theirs_c zc A6 c6 _).mono ?_
        rintro v M1 ⟨rfl, m1⟩
        refine ⟨m1, fun _ => ?_⟩
        refine lexQ rfl rfl rfl rfl (fun H hM => (yLoadB ((hB4.ext x8).ext hM.ext) rfl Try.underlying27 rfl Try.sizeOf27 rfl)) ?_
        -- tail
        refine lexNil0 rfl (fun hM => ?_)
        -- e slot 132: call F22<farandole/farandolelaw13.theirs> t131
        refine seqE rfl rfl (stepCall rfl Try.call22 rfl ?_)
        refine (theirs_c zc A1 c1 _).mono ?_
        rintro v M2 ⟨rfl, m2⟩
        -- e slot 133: call F21<farandole/farandoleref13.Same> t130 t132
        refine seqE rfl rfl (stepCall rfl Try.call21 rfl ?_)
        refine (same_c zc zc A6 A1 c6 c1 _ ((rd8.ext m1).ext m2) (((rdc.ext x8).ext m1).ext m2) hlc).mono ?_
        rintro v M3 ⟨rfl, m3⟩
        rw [sameB]
        refine seqQ rfl rfl (yPickT (v := .bool _) rfl rfl rfl) ?_
        refine seqQ rfl rfl (yPickF (v := .bool _) rfl rfl rfl) ?_
        refine seqQ rfl rfl (yAssign (v := .bool _) rfl rfl) ?_
        refine seqNil ?_
        refine hF22 _ _ ?_; clear hF22
        -- ret
        refine wpRet (fin1 (v := .bool _) rfl rfl ?_)
        exact ⟨rfl, (((hE.trans x8).trans m1).trans m2).trans m3⟩
end Go.Proofs.Ytjkbkmbblidipaa
