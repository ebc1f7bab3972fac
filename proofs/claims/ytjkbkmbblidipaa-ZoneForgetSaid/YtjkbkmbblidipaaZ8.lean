/- Zones: Range, Implies (both). -/
import Derived.Test.YtjkbkmbblidipaaZ7
namespace Go.Proofs.Ytjkbkmbblidipaa
open Go.RowKit

def rngZ (z : Zn) (x : Int) : Int × Int × Bool := if (closeZ z).2 = true ∧ 0 ≤ x ∧ x < z.N then (-mt (dm z) (closeZ z).1.b 0 (x + 1).toNat, mt (dm z) (closeZ z).1.b (x + 1).toNat 0, true) else (0, 0, false)
set_option maxRecDepth 100000 in
theorem rngZ_no {z : Zn} {x : Int} (h : ¬ ((closeZ z).2 = true ∧ 0 ≤ x ∧ x < z.N)) : rngZ z x = (0, 0, false) := if_neg h
set_option maxRecDepth 100000 in
theorem rngZ_yes {z : Zn} {L : List Int} {x : Nat} (h : closeZ z = (⟨z.N, L⟩, true)) (hx : (x : Int) < z.N) : rngZ z x = (-mt (dm z) L 0 (x + 1), mt (dm z) L (x + 1) 0, true) := by
  unfold rngZ
  rw [h, if_pos ⟨rfl, by omega, hx⟩]
  rfl
set_option maxRecDepth 100000 in
theorem range_c (z : Zn) (x : Int) (A : Option Addr) (ca : Nat) (H : Heap) (hA : Rd eInt H A z.b) (h8 : z.N ≤ 8) :
    CallsH Try.prog 19 [.agg (znC z A ca).toArray, .int .i64 x] H fun v H' => Ext H H' ∧ v = .tuple #[.int .i64 (rngZ z x).1, .int .i64 (rngZ z x).2.1, .bool (rngZ z x).2.2] := by
  refine callsH_of Try.func19 rfl Try.ntmps19 (Nat.le_of_ble_eq_true rfl) ?_
  refine wpSeq fun F1 hF1 => ?_
  refine wpRegion ?_
  refine seqN rfl rfl (nBoxA rfl rfl) (fun g2 H2 hx2 hB2 hg2 hl2 => ?_)
  refine seqQ rfl rfl (yAssign (v := .int _ _) rfl rfl) ?_
  refine seqQ rfl rfl (yAssign (v := .int _ _) rfl rfl) ?_
  refine seqQ rfl rfl (yAssign (v := .bool _) rfl rfl) ?_
  refine seqNil ?_
  refine hF1 _ _ ?_; clear hF1
  refine wpSeq fun F2 hF2 => ?_
  refine wpRegion ?_
  refine seqQ rfl rfl (yLoadB hB2 rfl Try.underlying27 rfl Try.sizeOf27 rfl) ?_
  -- e slot 10: call F14<farandole/zone.Close> t9
  refine seqE rfl rfl (stepCall rfl Try.call14 rfl ?_)
  have hc := close_c z A ca _ (hA.ext hx2) h8
  rcases closeZ_cases z with ⟨e, _⟩ | ⟨L, e, hv, hB⟩
  · skip
    rw [e] at hc
    refine hc.mono ?_
    rintro v H3 ⟨hx3, u, rfl, A', ca', rfl, ho⟩
    refine seqQ rfl rfl (yMove (v := .tuple _) rfl rfl) ?_
    refine seqQ rfl rfl (yExtract (v := .agg _) rfl rfl rfl) ?_
    refine seqQ rfl rfl (yExtract (v := .bool _) rfl rfl rfl) ?_
    refine seqN rfl rfl (nAlloc rfl Try.zeroValue27 rfl) (fun g7 H7 hx7 hB7 hg7 hl7 => ?_)
    -- e slot None: store T27 t7 t11
    refine seqE0 rfl rfl (stepStoreB rfl (by kernel_rfl) rfl rfl rfl hB7 rfl ?_)
    intro H5 hB5 hK5
    refine seqQ rfl rfl (yAssign (v := .bool _) rfl rfl) ?_
    refine seqNil ?_
    refine hF2 _ _ ?_; clear hF2
    refine wpSeq fun F3 hF3 => ?_
    refine wpSeq fun F4 hF4 => ?_
    refine wpRegion ?_
    refine seqQ rfl rfl (yMove (v := .bool _) rfl rfl) ?_
    refine seqQ rfl rfl (yNot rfl rfl) ?_
    refine seqQ rfl rfl (yMove (v := .bool true) rfl rfl) ?_
    refine seqU rfl rfl ?_
    refine seqU rfl rfl ?_
    refine seqQ rfl rfl (yPickT (v := .bool _) rfl rfl rfl) ?_
    refine seqQ rfl rfl (yMove (v := .bool true) rfl rfl) ?_
    refine seqU rfl rfl ?_
    refine seqU rfl rfl ?_
    refine seqU rfl rfl ?_
    refine seqU rfl rfl ?_
    refine seqQ rfl rfl (yPickT (v := .bool _) rfl rfl rfl) ?_
    refine seqNil ?_
    refine hF4 _ _ ?_; clear hF4
    -- if t24
    refine wpT rfl ?_
    refine wpSeq fun F5 hF5 => ?_
    refine wpRegion ?_
    refine seqQ rfl rfl (yAssign (v := .int _ _) rfl rfl) ?_
    refine seqQ rfl rfl (yAssign (v := .int _ _) rfl rfl) ?_
    refine seqQ rfl rfl (yAssign (v := .bool _) rfl rfl) ?_
    refine seqNil ?_
    refine hF5 _ _ ?_; clear hF5
    -- ret
    refine wpRet (fin3 (v := .int _ _) (v' := .int _ _) (v'' := .bool _) rfl rfl rfl rfl ?_)
    refine ⟨((hx2.trans hx3).trans hx7).mine hK5 (by have := hx2.size; have := hx3.size; simp; omega), ?_⟩
    rw [rngZ_no (by rw [e]; simp)]
  · skip
    rw [e] at hc
    refine hc.mono ?_
    rintro v H3 ⟨hx3, u, rfl, A', ca', rfl, ho⟩
    obtain ⟨d1, d2, d3, d4⟩ := hv.dim
    have hv' := hB.val hv
    have hB1' := hB2.lt
    refine seqQ rfl rfl (yMove (v := .tuple _) rfl rfl) ?_
    refine seqQ rfl rfl (yExtract (v := .agg _) rfl rfl rfl) ?_
    refine seqQ rfl rfl (yExtract (v := .bool _) rfl rfl rfl) ?_
    refine seqN rfl rfl (nAlloc rfl Try.zeroValue27 rfl) (fun g7 H7 hx7 hB7 hg7 hl7 => ?_)
    -- e slot None: store T27 t7 t11
    refine seqE0 rfl rfl (stepStoreB rfl (by kernel_rfl) rfl rfl rfl hB7 rfl ?_)
    intro H5 hB5 hK5
    have hE := ((hx2.trans hx3).trans hx7).mine hK5 (by have := hx2.size; have := hx3.size; simp; omega)
    have b1 := ((hB2.ext hx3).ext hx7).keep hK5 (by have := hx3.size; simp; omega)
    have rd5 : Rd eInt H5 A' L := ((Own.rd ho).2.ext hx7).keep hK5 (by
      intro p e
      subst e
      have := (ho.lt p.block rfl).2
      simp
      omega)
    clear hx2 hx3 hx7 hB2 hB7 hK5 ho hB1' hc
    refine seqQ rfl rfl (yAssign (v := .bool _) rfl rfl) ?_
    refine seqNil ?_
    refine hF2 _ _ ?_; clear hF2
    refine wpSeq fun F6 hF6 => ?_
    refine wpSeq fun F7 hF7 => ?_
    refine wpRegion ?_
    refine seqQ rfl rfl (yMove (v := .bool _) rfl rfl) ?_
    refine seqQ rfl rfl (yNot rfl rfl) ?_
    refine seqQ rfl rfl (yMove (v := .bool false) rfl rfl) ?_
    refine seqQ rfl rfl (yMove (v := .int _ _) rfl rfl) ?_
    refine seqQ rfl rfl (yLss rfl rfl rfl) ?_
    refine seqQ rfl rfl (yPickF (v := .bool _) rfl rfl rfl) ?_
    -- guard t19
    refine seqMeet 12 [19, 20, 21, 22, 23, 24] 24 (decide (x < 0 ∨ z.N ≤ x)) (fun hm8 => ?_) (fun J8 => ?_)
    · skip
      first | refine seqG rfl rfl rfl rfl (fun h19 => ?_) (fun h19 => ?_) | refine seqGB rfl rfl rfl rfl (fun h19 => ?_) (fun h19 => ?_)
      · skip
        refine seqU rfl rfl ?_
        refine seqU rfl rfl ?_
        refine seqU rfl rfl ?_
        refine seqU rfl rfl ?_
        refine seqQ rfl rfl (yPickT (v := .bool _) rfl rfl rfl) ?_
        exact hm8 _ (by repeat (first | (with_reducible exact Agree.refl _ _) | refine Agree.upd ?_ rfl | refine Agree.over ?_ rfl)) (by show Value.bool _ = Value.bool _; congr 1; grind)
      · skip
        refine seqQ rfl rfl (yMove (v := .int _ _) rfl rfl) ?_
        refine seqQ rfl rfl (yFieldAddr rfl Try.underlying27 rfl Try.sizeOf3 rfl rfl) ?_
        refine seqQ rfl rfl (yLoad rfl Try.underlying3 rfl rfl (b1.cell rfl)) ?_
        refine seqQ rfl rfl (yGeq rfl rfl rfl) ?_
        refine seqQ rfl rfl (yPickF (v := .bool _) rfl rfl rfl) ?_
        exact hm8 _ (by repeat (first | (with_reducible exact Agree.refl _ _) | refine Agree.upd ?_ rfl | refine Agree.over ?_ rfl)) (by show Value.bool _ = Value.bool _; congr 1; grind)
    refine seqNil ?_
    refine hF7 _ _ ?_; clear hF7
    -- if t24
    refine wpIf rfl (fun hbad => ?_) (fun hbad => ?_)
    · skip
      refine wpSeq fun F9 hF9 => ?_
      refine wpRegion ?_
      refine seqQ rfl rfl (yAssign (v := .int _ _) rfl rfl) ?_
      refine seqQ rfl rfl (yAssign (v := .int _ _) rfl rfl) ?_
      refine seqQ rfl rfl (yAssign (v := .bool _) rfl rfl) ?_
      refine seqNil ?_
      refine hF9 _ _ ?_; clear hF9
      -- ret
      refine wpRet (fin3 (v := .int _ _) (v' := .int _ _) (v'' := .bool _) rfl rfl rfl rfl ?_)
      refine ⟨hE, ?_⟩
      rw [rngZ_no (by rintro ⟨-, h1, h2⟩; omega)]
    · skip
      obtain ⟨k, rfl⟩ := Int.eq_ofNat_of_zero_le (show 0 ≤ x by omega)
      have hx : k + 1 < dm z := by omega
      have hx0 : 0 < dm z := by omega
      have bx := hB.in64 hv hx0 hx
      refine wpSkip ?_
      refine hF6 _ _ ?_; clear hF6
      refine wpSeq fun F10 hF10 => ?_
      refine wpRegionD Try_mixed [.q, .q, .q, .e, .q, .q, .q, .q, .e, .q, .q, .q] 9 [0, 0, 2, 7, 15, 0, 0, 64, 239, 511, 1023, 2047] [] (by kernel_rfl) _ rfl [0, 1, 2, 3, 4, 5, 6, 7, 8] rfl (by simp) ?_
      refine lexQ rfl rfl rfl rfl (fun H hM => (yLoadB (hB5.ext hM.ext) rfl Try.underlying27 rfl Try.sizeOf27 rfl)) ?_
      refine lexQ rfl rfl rfl rfl (fun H hM => (yMove (v := .int _ _) rfl rfl)) ?_
      refine lexQ rfl rfl rfl rfl (fun H hM => (yAddE rfl rfl rfl (by unfold In64; omega) (Int.natCast_succ k).symm)) ?_
      -- e slot 28: call F44<(farandole/zone.Zone).at> t25 [i:i64:0] t27
      refine lexX0 rfl rfl rfl rfl rfl (by simp) (fun hM28 => stepCall rfl Try.call44 rfl ?_)
      refine (at_c ⟨z.N, L⟩ 0 (k + 1) A' ca' _ rd5 hv' hx0 hx).mono ?_
      rintro w H6 ⟨rfl, hx6⟩
      refine ⟨hx6, fun _ => ?_⟩
      refine lexQ rfl rfl rfl rfl (fun H hM => (yNeg rfl rfl (by change In64 (-mt (dm z) L 0 (k + 1)); unfold In64; omega))) ?_
      refine lexQ rfl rfl rfl rfl (fun H hM => (yLoadB (hB5.ext hM.ext) rfl Try.underlying27 rfl Try.sizeOf27 rfl)) ?_
      refine lexQ rfl rfl rfl rfl (fun H hM => (yMove (v := .int _ _) rfl rfl)) ?_
      refine lexQ rfl rfl rfl rfl (fun H hM => (yAddE rfl rfl rfl (by unfold In64; omega) (Int.natCast_succ k).symm)) ?_
      -- e slot 33: call F44<(farandole/zone.Zone).at> t30 t32 [i:i64:0]
      refine lexX0 rfl rfl rfl rfl rfl (by simp) (fun hM33 => stepCall rfl Try.call44 rfl ?_)
      refine (at_c ⟨z.N, L⟩ (k + 1) 0 A' ca' _ (rd5.ext hx6) hv' hx hx0).mono ?_
      rintro w H7 ⟨rfl, hx7⟩
      refine ⟨hx7, fun _ => ?_⟩
      -- tail
      refine lexNil0 rfl (fun hM => ?_)
      refine seqQ rfl rfl (yAssign (v := .int _ _) rfl rfl) ?_
      refine seqQ rfl rfl (yAssign (v := .int _ _) rfl rfl) ?_
      refine seqQ rfl rfl (yAssign (v := .bool _) rfl rfl) ?_
      refine seqNil ?_
      refine hF10 _ _ ?_; clear hF10
      -- ret
      refine wpRet (fin3 (v := .int _ _) (v' := .int _ _) (v'' := .bool _) rfl rfl rfl rfl ?_)
      exact ⟨(hE.trans hx6).trans hx7, by rw [rngZ_yes e (by omega)]; rfl⟩
set_option maxRecDepth 100000 in
theorem rRange_c (z : Zn) (x : Int) (A : Option Addr) (ca : Nat) (H : Heap) (hA : Rd eInt H A z.b) (h8 : z.N ≤ 8) :
    CallsH Try.prog 20 [.agg (znC z A ca).toArray, .int .i64 x] H fun v H' => Ext H H' ∧ v = .tuple #[.int .i64 (rngZ z x).1, .int .i64 (rngZ z x).2.1, .bool (rngZ z x).2.2] := by
  refine callsH_of Try.func20 rfl Try.ntmps20 (Nat.le_of_ble_eq_true rfl) ?_
  refine wpSeq fun F1 hF1 => ?_
  refine wpRegion ?_
  refine seqN rfl rfl (nBoxA rfl rfl) (fun g2 H2 hx2 hB2 hg2 hl2 => ?_)
  refine seqQ rfl rfl (yAssign (v := .int _ _) rfl rfl) ?_
  refine seqQ rfl rfl (yAssign (v := .int _ _) rfl rfl) ?_
  refine seqQ rfl rfl (yAssign (v := .bool _) rfl rfl) ?_
  refine seqNil ?_
  refine hF1 _ _ ?_; clear hF1
  refine wpSeq fun F2 hF2 => ?_
  refine wpRegion ?_
  refine seqQ rfl rfl (yLoadB hB2 rfl Try.underlying24 rfl Try.sizeOf24 rfl) ?_
  -- e slot 11: call F16<farandole/farandoleref13.Close> t10
  refine seqE rfl rfl (stepCall rfl Try.call16 rfl ?_)
  have hc := rClose_c z A ca _ (hA.ext hx2) h8
  rcases closeZ_cases z with ⟨e, _⟩ | ⟨L, e, hv, hB⟩
  · skip
    rw [e] at hc
    refine hc.mono ?_
    rintro v H3 ⟨hx3, u, rfl, A', ca', rfl, ho⟩
    refine seqQ rfl rfl (yMove (v := .tuple _) rfl rfl) ?_
    refine seqQ rfl rfl (yExtract (v := .agg _) rfl rfl rfl) ?_
    refine seqQ rfl rfl (yExtract (v := .bool _) rfl rfl rfl) ?_
    refine seqN rfl rfl (nAlloc rfl Try.zeroValue24 rfl) (fun g7 H7 hx7 hB7 hg7 hl7 => ?_)
    -- e slot None: store T24 t7 t12
    refine seqE0 rfl rfl (stepStoreB rfl (by kernel_rfl) rfl rfl rfl hB7 rfl ?_)
    intro H5 hB5 hK5
    refine seqQ rfl rfl (yAssign (v := .bool _) rfl rfl) ?_
    refine seqNil ?_
    refine hF2 _ _ ?_; clear hF2
    refine wpSeq fun F3 hF3 => ?_
    refine wpSeq fun F4 hF4 => ?_
    refine wpRegion ?_
    refine seqQ rfl rfl (yMove (v := .bool _) rfl rfl) ?_
    refine seqQ rfl rfl (yNot rfl rfl) ?_
    refine seqQ rfl rfl (yMove (v := .bool true) rfl rfl) ?_
    refine seqU rfl rfl ?_
    refine seqU rfl rfl ?_
    refine seqQ rfl rfl (yPickT (v := .bool _) rfl rfl rfl) ?_
    refine seqQ rfl rfl (yMove (v := .bool true) rfl rfl) ?_
    refine seqU rfl rfl ?_
    refine seqU rfl rfl ?_
    refine seqU rfl rfl ?_
    refine seqU rfl rfl ?_
    refine seqQ rfl rfl (yPickT (v := .bool _) rfl rfl rfl) ?_
    refine seqNil ?_
    refine hF4 _ _ ?_; clear hF4
    -- if t25
    refine wpT rfl ?_
    refine wpSeq fun F5 hF5 => ?_
    refine wpRegion ?_
    refine seqQ rfl rfl (yAssign (v := .int _ _) rfl rfl) ?_
    refine seqQ rfl rfl (yAssign (v := .int _ _) rfl rfl) ?_
    refine seqQ rfl rfl (yAssign (v := .bool _) rfl rfl) ?_
    refine seqNil ?_
    refine hF5 _ _ ?_; clear hF5
    -- ret
    refine wpRet (fin3 (v := .int _ _) (v' := .int _ _) (v'' := .bool _) rfl rfl rfl rfl ?_)
    refine ⟨((hx2.trans hx3).trans hx7).mine hK5 (by have := hx2.size; have := hx3.size; simp; omega), ?_⟩
    rw [rngZ_no (by rw [e]; simp)]
  · skip
    rw [e] at hc
    refine hc.mono ?_
    rintro v H3 ⟨hx3, u, rfl, A', ca', rfl, ho⟩
    obtain ⟨d1, d2, d3, d4⟩ := hv.dim
    have hv' := hB.val hv
    have hB1' := hB2.lt
    refine seqQ rfl rfl (yMove (v := .tuple _) rfl rfl) ?_
    refine seqQ rfl rfl (yExtract (v := .agg _) rfl rfl rfl) ?_
    refine seqQ rfl rfl (yExtract (v := .bool _) rfl rfl rfl) ?_
    refine seqN rfl rfl (nAlloc rfl Try.zeroValue24 rfl) (fun g7 H7 hx7 hB7 hg7 hl7 => ?_)
    -- e slot None: store T24 t7 t12
    refine seqE0 rfl rfl (stepStoreB rfl (by kernel_rfl) rfl rfl rfl hB7 rfl ?_)
    intro H5 hB5 hK5
    have hE := ((hx2.trans hx3).trans hx7).mine hK5 (by have := hx2.size; have := hx3.size; simp; omega)
    have b1 := ((hB2.ext hx3).ext hx7).keep hK5 (by have := hx3.size; simp; omega)
    have rd5 : Rd eInt H5 A' L := ((Own.rd ho).2.ext hx7).keep hK5 (by
      intro p e
      subst e
      have := (ho.lt p.block rfl).2
      simp
      omega)
    clear hx2 hx3 hx7 hB2 hB7 hK5 ho hB1' hc
    refine seqQ rfl rfl (yAssign (v := .bool _) rfl rfl) ?_
    refine seqNil ?_
    refine hF2 _ _ ?_; clear hF2
    refine wpSeq fun F6 hF6 => ?_
    refine wpSeq fun F7 hF7 => ?_
    refine wpRegion ?_
    refine seqQ rfl rfl (yMove (v := .bool _) rfl rfl) ?_
    refine seqQ rfl rfl (yNot rfl rfl) ?_
    refine seqQ rfl rfl (yMove (v := .bool false) rfl rfl) ?_
    refine seqQ rfl rfl (yMove (v := .int _ _) rfl rfl) ?_
    refine seqQ rfl rfl (yLss rfl rfl rfl) ?_
    refine seqQ rfl rfl (yPickF (v := .bool _) rfl rfl rfl) ?_
    -- guard t20
    refine seqMeet 12 [20, 21, 22, 23, 24, 25] 25 (decide (x < 0 ∨ z.N ≤ x)) (fun hm8 => ?_) (fun J8 => ?_)
    · skip
      first | refine seqG rfl rfl rfl rfl (fun h20 => ?_) (fun h20 => ?_) | refine seqGB rfl rfl rfl rfl (fun h20 => ?_) (fun h20 => ?_)
      · skip
        refine seqU rfl rfl ?_
        refine seqU rfl rfl ?_
        refine seqU rfl rfl ?_
        refine seqU rfl rfl ?_
        refine seqQ rfl rfl (yPickT (v := .bool _) rfl rfl rfl) ?_
        exact hm8 _ (by repeat (first | (with_reducible exact Agree.refl _ _) | refine Agree.upd ?_ rfl | refine Agree.over ?_ rfl)) (by show Value.bool _ = Value.bool _; congr 1; grind)
      · skip
        refine seqQ rfl rfl (yMove (v := .int _ _) rfl rfl) ?_
        refine seqQ rfl rfl (yFieldAddr rfl Try.underlying24 rfl Try.sizeOf3 rfl rfl) ?_
        refine seqQ rfl rfl (yLoad rfl Try.underlying3 rfl rfl (b1.cell rfl)) ?_
        refine seqQ rfl rfl (yGeq rfl rfl rfl) ?_
        refine seqQ rfl rfl (yPickF (v := .bool _) rfl rfl rfl) ?_
        exact hm8 _ (by repeat (first | (with_reducible exact Agree.refl _ _) | refine Agree.upd ?_ rfl | refine Agree.over ?_ rfl)) (by show Value.bool _ = Value.bool _; congr 1; grind)
    refine seqNil ?_
    refine hF7 _ _ ?_; clear hF7
    -- if t25
    refine wpIf rfl (fun hbad => ?_) (fun hbad => ?_)
    · skip
      refine wpSeq fun F9 hF9 => ?_
      refine wpRegion ?_
      refine seqQ rfl rfl (yAssign (v := .int _ _) rfl rfl) ?_
      refine seqQ rfl rfl (yAssign (v := .int _ _) rfl rfl) ?_
      refine seqQ rfl rfl (yAssign (v := .bool _) rfl rfl) ?_
      refine seqNil ?_
      refine hF9 _ _ ?_; clear hF9
      -- ret
      refine wpRet (fin3 (v := .int _ _) (v' := .int _ _) (v'' := .bool _) rfl rfl rfl rfl ?_)
      refine ⟨hE, ?_⟩
      rw [rngZ_no (by rintro ⟨-, h1, h2⟩; omega)]
    · skip
      obtain ⟨k, rfl⟩ := Int.eq_ofNat_of_zero_le (show 0 ≤ x by omega)
      have hx : k + 1 < dm z := by omega
      have hx0 : 0 < dm z := by omega
      have bx := hB.in64 hv hx0 hx
      have i1 := idx_lt hx0 hx
      have i2 := idx_lt hx hx0
      have hl := hB.len
      obtain ⟨q, eq, hq1⟩ := rdM rd5 hl hx0 hx
      subst eq
      obtain ⟨q', eq, hq2⟩ := rdM rd5 hl hx hx0
      obtain rfl := Option.some.inj eq
      have e1 : (k : Int) + 1 = ((0 * dm z + (k + 1) : Nat) : Int) := by omega
      have e2 : ((k + 1 : Nat) : Int) * (dm z : Int) = (((k + 1) * dm z + 0 : Nat) : Int) := (Int.natCast_mul (k + 1) (dm z)).symm
      refine wpSkip ?_
      refine hF6 _ _ ?_; clear hF6
      refine wpSeq fun F10 hF10 => ?_
      refine wpRegionD Try_mixed [.q, .q, .q, .q, .q, .q, .q, .q, .q, .q, .q, .q, .q, .q, .q, .q, .q, .q, .q, .q] 18 [0, 1, 0, 4, 15, 31, 63, 0, 128, 0, 512, 0, 2048, 6144, 15872, 32640, 65408, 127, 262143, 524287] [] (by kernel_rfl) _ rfl [0, 1, 2, 3, 4, 5, 6, 7, 8, 9, 10, 11, 12, 13, 14, 15, 16, 17] rfl (by simp) ?_
      refine lexQ rfl rfl rfl rfl (fun H hM => (yFieldAddr rfl Try.underlying24 rfl Try.sizeOf22 rfl rfl)) ?_
      refine lexQ rfl rfl rfl rfl (fun H hM => (yLoad rfl Try.underlying22 rfl rfl (hM.ext.cell (hB5.cell rfl)))) ?_
      refine lexQ rfl rfl rfl rfl (fun H hM => (yMove (v := .int _ _) rfl rfl)) ?_
      refine lexQ rfl rfl rfl rfl (fun H hM => (yAddE rfl rfl rfl (by unfold In64; omega) e1)) ?_
      refine lexQ rfl rfl rfl rfl (fun H hM => (yIdx1 rfl Try.underlying22 Try.sizeOf3 rfl rfl rfl (show 0 * dm z + (k + 1) < L.length by omega))) ?_
      refine lexQ rfl rfl rfl rfl (fun H hM => (yLoad rfl Try.underlying3 rfl rfl (hM.ext.cell hq1))) ?_
      refine lexQ rfl rfl rfl rfl (fun H hM => (yNeg rfl rfl (by unfold In64; omega))) ?_
      refine lexQ rfl rfl rfl rfl (fun H hM => (yFieldAddr rfl Try.underlying24 rfl Try.sizeOf22 rfl rfl)) ?_
      refine lexQ rfl rfl rfl rfl (fun H hM => (yLoad rfl Try.underlying22 rfl rfl (hM.ext.cell (hB5.cell rfl)))) ?_
      refine lexQ rfl rfl rfl rfl (fun H hM => (yMove (v := .int _ _) rfl rfl)) ?_
      refine lexQ rfl rfl rfl rfl (fun H hM => (yAddE rfl rfl rfl (by unfold In64; omega) (Int.natCast_succ k).symm)) ?_
      refine lexQ rfl rfl rfl rfl (fun H hM => (yFieldAddr rfl Try.underlying24 rfl Try.sizeOf3 rfl rfl)) ?_
      refine lexQ rfl rfl rfl rfl (fun H hM => (yLoad rfl Try.underlying3 rfl rfl (hM.ext.cell (b1.cell rfl)))) ?_
      refine lexQ rfl rfl rfl rfl (fun H hM => (yAddE rfl rfl rfl (by unfold In64; omega) hv.succ)) ?_
      refine lexQ rfl rfl rfl rfl (fun H hM => (yMulE rfl rfl rfl (mul_in (by omega) d3) e2)) ?_
      refine lexQ rfl rfl rfl rfl (fun H hM => (yIdx1 rfl Try.underlying22 Try.sizeOf3 rfl rfl rfl (show (k + 1) * dm z + 0 < L.length by omega))) ?_
      refine lexQ rfl rfl rfl rfl (fun H hM => (yLoad rfl Try.underlying3 rfl rfl (hM.ext.cell hq2))) ?_
      refine lexQ rfl rfl rfl rfl (fun H hM => (yAssign (v := .int _ _) rfl rfl)) ?_
      -- tail
      refine lexNil0 rfl (fun hM => ?_)
      refine seqQ rfl rfl (yAssign (v := .int _ _) rfl rfl) ?_
      refine seqQ rfl rfl (yAssign (v := .bool _) rfl rfl) ?_
      refine seqNil ?_
      refine hF10 _ _ ?_; clear hF10
      -- ret
      refine wpRet (fin3 (v := .int _ _) (v' := .int _ _) (v'' := .bool _) rfl rfl rfl rfl ?_)
      exact ⟨hE, by rw [rngZ_yes e (by omega)]⟩

def impZ (z : Zn) (X Y C : Int) : Bool := if ValZ z ∧ knownB z X ∧ knownB z Y then (if (closeZ z).2 = true then decide (mt (dm z) (closeZ z).1.b (X + 1).toNat (Y + 1).toNat ≤ C) else true) else false
set_option maxRecDepth 100000 in
theorem impZ_no {z : Zn} {X Y C : Int} (h : ¬ (ValZ z ∧ knownB z X ∧ knownB z Y)) : impZ z X Y C = false := if_neg h
set_option maxRecDepth 100000 in
theorem impZ_empty {z : Zn} {X Y C : Int} (h : ValZ z ∧ knownB z X ∧ knownB z Y) (e : closeZ z = (zn0, false)) : impZ z X Y C = true := by
  unfold impZ
  rw [if_pos h, e]
  rfl
set_option maxRecDepth 100000 in
theorem impZ_yes {z : Zn} {X Y C : Int} {L : List Int} {i j : Nat} (h : ValZ z ∧ knownB z X ∧ knownB z Y) (e : closeZ z = (⟨z.N, L⟩, true)) (hX : X + 1 = (i : Int)) (hY : Y + 1 = (j : Int)) : impZ z X Y C = decide (mt (dm z) L i j ≤ C) := by
  unfold impZ
  rw [if_pos h, e, if_pos rfl, hX, hY]
  rfl
set_option maxRecDepth 100000 in
theorem implies_c (z : Zn) (X Y C : Int) (A : Option Addr) (ca : Nat) (H : Heap) (hA : Rd eInt H A z.b) (h8 : z.N ≤ 8) :
    CallsH Try.prog 29 [.agg (znC z A ca).toArray, .agg [.int .i64 X, .int .i64 Y, .int .i64 C].toArray] H fun v H' => Ext H H' ∧ v = .bool (impZ z X Y C) := by
  refine callsH_of Try.func29 rfl Try.ntmps29 (Nat.le_of_ble_eq_true rfl) ?_
  refine wpSeq fun F1 hF1 => ?_
  refine wpRegion ?_
  refine seqN rfl rfl (nBoxA rfl rfl) (fun g2 H2 hx2 hB2 hg2 hl2 => ?_)
  refine seqN rfl rfl (nBoxA rfl rfl) (fun g3 H3 hx3 hB3 hg3 hl3 => ?_)
  refine seqQ rfl rfl (yAssign (v := .bool _) rfl rfl) ?_
  refine seqNil ?_
  refine hF1 _ _ ?_; clear hF1
  refine wpSeq fun F2 hF2 => ?_
  refine wpSeq fun F3 hF3 => ?_
  refine wpRegion ?_
  refine seqQ rfl rfl (yLoadB (hB2.ext hx3) rfl Try.underlying27 rfl Try.sizeOf27 rfl) ?_
  -- e slot 8: call F27<farandole/zone.Valid> t7
  refine seqE rfl rfl (stepCall rfl Try.call27 rfl ?_)
  refine (zvalid_c z A ca _ ((hA.ext hx2).ext hx3)).mono ?_
  rintro v H4 ⟨rfl, hx4⟩
  have hE := (hx2.trans hx3).trans hx4
  replace hB2 := (hB2.ext hx3).ext hx4
  replace hB3 := hB3.ext hx4
  clear hx2 hx3 hx4
  refine seqQ rfl rfl (yNot rfl rfl) ?_
  -- guard t10
  refine seqGB rfl rfl rfl rfl (fun hv => ?_) (fun hv => ?_)
  · skip
    have hv : ¬ ValZ z := by simpa using hv
    refine seqU rfl rfl ?_
    refine seqU rfl rfl ?_
    refine seqU rfl rfl ?_
    refine seqU rfl rfl ?_
    refine seqU rfl rfl ?_
    refine seqQ rfl rfl (yPickT (v := .bool _) rfl rfl rfl) ?_
    refine seqQ rfl rfl (yMove (v := .bool true) rfl rfl) ?_
    refine seqU rfl rfl ?_
    refine seqU rfl rfl ?_
    refine seqU rfl rfl ?_
    refine seqU rfl rfl ?_
    refine seqU rfl rfl ?_
    refine seqQ rfl rfl (yPickT (v := .bool _) rfl rfl rfl) ?_
    refine seqNil ?_
    refine hF3 _ _ ?_; clear hF3
    -- if t23
    refine wpT rfl ?_
    refine wpSeq fun F4 hF4 => ?_
    refine wpRegion ?_
    refine seqQ rfl rfl (yAssign (v := .bool _) rfl rfl) ?_
    refine seqNil ?_
    refine hF4 _ _ ?_; clear hF4
    -- ret
    refine wpRet (fin1 (v := .bool _) rfl rfl ?_)
    exact ⟨hE, by rw [impZ_no (fun h => hv h.1)]⟩
  · skip
    have hv : ValZ z := by simpa using hv
    obtain ⟨d1, d2, d3, d4⟩ := hv.dim
    refine seqQ rfl rfl (yLoadB hB2 rfl Try.underlying27 rfl Try.sizeOf27 rfl) ?_
    refine seqQ rfl rfl (yFieldAddr rfl Try.underlying43 rfl Try.sizeOf3 rfl rfl) ?_
    refine seqQ rfl rfl (yLoad rfl Try.underlying3 rfl rfl (hB3.cell rfl)) ?_
    -- e slot 14: call F45<farandole/zone.inside> t11 t13
    refine seqE rfl rfl (stepCall rfl Try.call45 rfl ?_)
    refine (inside_c z X A ca _).mono ?_
    rintro v H5 ⟨rfl, hx5⟩
    replace hE := hE.trans hx5
    replace hB2 := hB2.ext hx5
    replace hB3 := hB3.ext hx5
    clear hx5
    refine seqQ rfl rfl (yNot rfl rfl) ?_
    refine seqQ rfl rfl (yPickF (v := .bool _) rfl rfl rfl) ?_
    -- guard t17
    refine seqGB rfl rfl rfl rfl (fun hX => ?_) (fun hX => ?_)
    · skip
      have hX : ¬ knownB z X := by simpa using hX
      refine seqU rfl rfl ?_
      refine seqU rfl rfl ?_
      refine seqU rfl rfl ?_
      refine seqU rfl rfl ?_
      refine seqU rfl rfl ?_
      refine seqQ rfl rfl (yPickT (v := .bool _) rfl rfl rfl) ?_
      refine seqNil ?_
      refine hF3 _ _ ?_; clear hF3
      -- if t23
      refine wpT rfl ?_
      refine wpSeq fun F5 hF5 => ?_
      refine wpRegion ?_
      refine seqQ rfl rfl (yAssign (v := .bool _) rfl rfl) ?_
      refine seqNil ?_
      refine hF5 _ _ ?_; clear hF5
      -- ret
      refine wpRet (fin1 (v := .bool _) rfl rfl ?_)
      exact ⟨hE, by rw [impZ_no (fun h => hX h.2.1)]⟩
    · skip
      have hX : knownB z X := by simpa using hX
      refine seqQ rfl rfl (yLoadB hB2 rfl Try.underlying27 rfl Try.sizeOf27 rfl) ?_
      refine seqQ rfl rfl (yFieldAddr rfl Try.underlying43 rfl Try.sizeOf3 rfl rfl) ?_
      refine seqQ rfl rfl (yLoad rfl Try.underlying3 rfl rfl (hB3.cell rfl)) ?_
      -- e slot 21: call F45<farandole/zone.inside> t18 t20
      refine seqE rfl rfl (stepCall rfl Try.call45 rfl ?_)
      refine (inside_c z Y A ca _).mono ?_
      rintro v H6 ⟨rfl, hx6⟩
      replace hE := hE.trans hx6
      replace hB2 := hB2.ext hx6
      replace hB3 := hB3.ext hx6
      clear hx6
      refine seqQ rfl rfl (yNot rfl rfl) ?_
      refine seqQ rfl rfl (yPickF (v := .bool _) rfl rfl rfl) ?_
      refine seqNil ?_
      refine hF3 _ _ ?_; clear hF3
      -- if t23
      refine wpCond rfl (fun hY => ?_) (fun hY => ?_)
      · skip
        have hY : ¬ knownB z Y := by simpa using hY
        refine wpSeq fun F6 hF6 => ?_
        refine wpRegion ?_
        refine seqQ rfl rfl (yAssign (v := .bool _) rfl rfl) ?_
        refine seqNil ?_
        refine hF6 _ _ ?_; clear hF6
        -- ret
        refine wpRet (fin1 (v := .bool _) rfl rfl ?_)
        exact ⟨hE, by rw [impZ_no (fun h => hY h.2.2)]⟩
      · skip
        have hY : knownB z Y := by simpa using hY
        obtain ⟨i, hi, hi2⟩ := kn_pos hv hX
        obtain ⟨j, hj, hj2⟩ := kn_pos hv hY
        unfold knownB at hX hY
        refine wpSkip ?_
        refine hF2 _ _ ?_; clear hF2
        refine wpSeq fun F7 hF7 => ?_
        refine wpRegion ?_
        refine seqQ rfl rfl (yLoadB hB2 rfl Try.underlying27 rfl Try.sizeOf27 rfl) ?_
        -- e slot 26: call F14<farandole/zone.Close> t25
        refine seqE rfl rfl (stepCall rfl Try.call14 rfl ?_)
        have hc := close_c z A ca _ (hA.ext hE) h8
        rcases closeZ_cases z with ⟨e, _⟩ | ⟨L, e, -, hB⟩
        · skip
          rw [e] at hc
          refine hc.mono ?_
          rintro v H7 ⟨hx7, u, rfl, A', ca', rfl, ho⟩
          refine seqQ rfl rfl (yMove (v := .tuple _) rfl rfl) ?_
          refine seqQ rfl rfl (yExtract (v := .agg _) rfl rfl rfl) ?_
          refine seqQ rfl rfl (yExtract (v := .bool _) rfl rfl rfl) ?_
          refine seqN rfl rfl (nAlloc rfl Try.zeroValue27 rfl) (fun g5 H5 hx5 hB5 hg5 hl5 => ?_)
          -- e slot None: store T27 t5 t27
          refine seqE0 rfl rfl (stepStoreB rfl (by kernel_rfl) rfl rfl rfl hB5 rfl ?_)
          intro H8 hB8 hK8
          refine seqQ rfl rfl (yAssign (v := .bool _) rfl rfl) ?_
          refine seqNil ?_
          refine hF7 _ _ ?_; clear hF7
          refine wpSeq fun F8 hF8 => ?_
          refine wpRegionD Try_mixed [.q, .q, .q, .q, .q, .q, .q, .q, .q, .q, .e, .q, .q, .q, .q, .q] 13 [0, 1, 3, 7, 7, 23, 55, 7, 135, 391, 1023, 7, 2055, 8191, 16383, 32767] [] (by kernel_rfl) _ rfl [0, 1, 2, 3, 4, 5, 6, 7, 8, 9, 10, 11, 12] rfl (by simp) ?_
          refine lexQ rfl rfl rfl rfl (fun H hM => (yMove (v := .bool _) rfl rfl)) ?_
          refine lexQ rfl rfl rfl rfl (fun H hM => (yNot rfl rfl)) ?_
          refine lexQ rfl rfl rfl rfl (fun H hM => (yMove (v := .bool true) rfl rfl)) ?_
          refine lexU rfl rfl rfl ?_
          refine lexU rfl rfl rfl ?_
          refine lexU rfl rfl rfl ?_
          refine lexU rfl rfl rfl ?_
          refine lexU rfl rfl rfl ?_
          refine lexU rfl rfl rfl ?_
          refine lexU rfl rfl rfl ?_
          refine lexU rfl rfl rfl ?_
          refine lexU rfl rfl rfl ?_
          refine lexU rfl rfl rfl ?_
          -- tail
          refine lexNil0 rfl (fun hM => ?_)
          refine seqU rfl rfl ?_
          refine seqQ rfl rfl (yPickT (v := .bool _) rfl rfl rfl) ?_
          refine seqQ rfl rfl (yAssign (v := .bool _) rfl rfl) ?_
          refine seqNil ?_
          refine hF8 _ _ ?_; clear hF8
          -- ret
          refine wpRet (fin1 (v := .bool _) rfl rfl ?_)
          have s1 := hE.size
          have s2 := hx7.size
          exact ⟨((hE.trans hx7).trans hx5).mine hK8 (by simp; omega), by rw [impZ_empty ⟨hv, hX, hY⟩ e]⟩
        · skip
          rw [e] at hc
          refine hc.mono ?_
          rintro v H7 ⟨hx7, u, rfl, A', ca', rfl, ho⟩
          refine seqQ rfl rfl (yMove (v := .tuple _) rfl rfl) ?_
          refine seqQ rfl rfl (yExtract (v := .agg _) rfl rfl rfl) ?_
          refine seqQ rfl rfl (yExtract (v := .bool _) rfl rfl rfl) ?_
          refine seqN rfl rfl (nAlloc rfl Try.zeroValue27 rfl) (fun g5 H5 hx5 hB5 hg5 hl5 => ?_)
          -- e slot None: store T27 t5 t27
          refine seqE0 rfl rfl (stepStoreB rfl (by kernel_rfl) rfl rfl rfl hB5 rfl ?_)
          intro H8 hB8 hK8
          have s1 := hE.size
          have s2 := hx7.size
          have l3 := hB3.lt
          have hE8 := ((hE.trans hx7).trans hx5).mine hK8 (by simp; omega)
          have b3 : Blk H8 g3 _ _ := ((hB3.ext hx7).ext hx5).keep hK8 (by simp; omega)
          have b2 : Blk H8 g2 _ _ := ((hB2.ext hx7).ext hx5).keep hK8 (by have := hB2.lt; simp; omega)
          have rd8 : Rd eInt H8 A' L := ((Own.rd ho).2.ext hx5).keep hK8 (by
            intro p e
            subst e
            have := (ho.lt p.block rfl).2
            simp
            omega)
          refine seqQ rfl rfl (yAssign (v := .bool _) rfl rfl) ?_
          refine seqNil ?_
          refine hF7 _ _ ?_; clear hF7
          refine wpSeq fun F9 hF9 => ?_
          refine wpRegionD Try_mixed [.q, .q, .q, .q, .q, .q, .q, .q, .q, .q, .e, .q, .q, .q, .q, .q] 13 [0, 1, 3, 7, 7, 23, 55, 7, 135, 391, 1023, 7, 2055, 8191, 16383, 32767] [] (by kernel_rfl) _ rfl [0, 1, 2, 3, 4, 5, 6, 7, 8, 9, 10, 11, 12] rfl (by simp) ?_
          refine lexQ rfl rfl rfl rfl (fun H hM => (yMove (v := .bool _) rfl rfl)) ?_
          refine lexQ rfl rfl rfl rfl (fun H hM => (yNot rfl rfl)) ?_
          refine lexQ rfl rfl rfl rfl (fun H hM => (yMove (v := .bool false) rfl rfl)) ?_
          refine lexQ rfl rfl rfl rfl (fun H hM => (yLoadB (hB8.ext hM.ext) rfl Try.underlying27 rfl Try.sizeOf27 rfl)) ?_
          refine lexQ rfl rfl rfl rfl (fun H hM => (yFieldAddr rfl Try.underlying43 rfl Try.sizeOf3 rfl rfl)) ?_
          refine lexQ rfl rfl rfl rfl (fun H hM => (yLoad rfl Try.underlying3 rfl rfl (hM.ext.cell (b3.cell rfl)))) ?_
          refine lexQ rfl rfl rfl rfl (fun H hM => (yAddE rfl rfl rfl (by unfold In64; omega) hi)) ?_
          refine lexQ rfl rfl rfl rfl (fun H hM => (yFieldAddr rfl Try.underlying43 rfl Try.sizeOf3 rfl rfl)) ?_
          refine lexQ rfl rfl rfl rfl (fun H hM => (yLoad rfl Try.underlying3 rfl rfl (hM.ext.cell (b3.cell rfl)))) ?_
          refine lexQ rfl rfl rfl rfl (fun H hM => (yAddE rfl rfl rfl (by unfold In64; omega) hj)) ?_
          -- e slot 39: call F44<(farandole/zone.Zone).at> t32 t35 t38
          refine lexX0 rfl rfl rfl rfl rfl (by simp) (fun hM39 => stepCall rfl Try.call44 rfl ?_)
          refine (at_c ⟨z.N, L⟩ i j A' ca' _ rd8 (hB.val hv) hi2 hj2).mono ?_
          rintro w H9 ⟨rfl, hx9⟩
          refine ⟨hx9, fun _ => ?_⟩
          refine lexQ rfl rfl rfl rfl (fun H hM => (yFieldAddr rfl Try.underlying43 rfl Try.sizeOf3 rfl rfl)) ?_
          refine lexQ rfl rfl rfl rfl (fun H hM => (yLoad rfl Try.underlying3 rfl rfl (hM.ext.cell (b3.cell rfl)))) ?_
          -- tail
          refine lexNil0 rfl (fun hM => ?_)
          refine seqQ rfl rfl (yLeq rfl rfl rfl) ?_
          refine seqQ rfl rfl (yPickF (v := .bool _) rfl rfl rfl) ?_
          refine seqQ rfl rfl (yAssign (v := .bool _) rfl rfl) ?_
          refine seqNil ?_
          refine hF9 _ _ ?_; clear hF9
          -- ret
          refine wpRet (fin1 (v := .bool _) rfl rfl ?_)
          exact ⟨hE8.trans hx9, by rw [impZ_yes ⟨hv, hX, hY⟩ e hi hj]; rfl⟩
set_option maxRecDepth 100000 in
theorem rImplies_c (z : Zn) (X Y C : Int) (A : Option Addr) (ca : Nat) (H : Heap) (hA : Rd eInt H A z.b) (h8 : z.N ≤ 8) :
    CallsH Try.prog 30 [.agg (znC z A ca).toArray, .agg [.int .i64 X, .int .i64 Y, .int .i64 C].toArray] H fun v H' => Ext H H' ∧ v = .bool (impZ z X Y C) := by
  refine callsH_of Try.func30 rfl Try.ntmps30 (Nat.le_of_ble_eq_true rfl) ?_
  refine wpSeq fun F1 hF1 => ?_
  refine wpRegion ?_
  refine seqN rfl rfl (nBoxA rfl rfl) (fun g2 H2 hx2 hB2 hg2 hl2 => ?_)
  refine seqN rfl rfl (nBoxA rfl rfl) (fun g3 H3 hx3 hB3 hg3 hl3 => ?_)
  refine seqQ rfl rfl (yAssign (v := .bool _) rfl rfl) ?_
  refine seqNil ?_
  refine hF1 _ _ ?_; clear hF1
  refine wpSeq fun F2 hF2 => ?_
  refine wpSeq fun F3 hF3 => ?_
  refine wpRegion ?_
  refine seqQ rfl rfl (yLoadB (hB2.ext hx3) rfl Try.underlying24 rfl Try.sizeOf24 rfl) ?_
  -- e slot 8: call F28<farandole/farandoleref13.Valid> t7
  refine seqE rfl rfl (stepCall rfl Try.call28 rfl ?_)
  refine (rvalid_c z A ca _ ((hA.ext hx2).ext hx3)).mono ?_
  rintro v H4 ⟨rfl, hx4⟩
  have hE := (hx2.trans hx3).trans hx4
  replace hB2 := (hB2.ext hx3).ext hx4
  replace hB3 := hB3.ext hx4
  clear hx2 hx3 hx4
  refine seqQ rfl rfl (yNot rfl rfl) ?_
  -- guard t10
  refine seqGB rfl rfl rfl rfl (fun hv => ?_) (fun hv => ?_)
  · skip
    have hv : ¬ ValZ z := by simpa using hv
    refine seqU rfl rfl ?_
    refine seqU rfl rfl ?_
    refine seqU rfl rfl ?_
    refine seqU rfl rfl ?_
    refine seqU rfl rfl ?_
    refine seqQ rfl rfl (yPickT (v := .bool _) rfl rfl rfl) ?_
    refine seqQ rfl rfl (yMove (v := .bool true) rfl rfl) ?_
    refine seqU rfl rfl ?_
    refine seqU rfl rfl ?_
    refine seqU rfl rfl ?_
    refine seqU rfl rfl ?_
    refine seqU rfl rfl ?_
    refine seqQ rfl rfl (yPickT (v := .bool _) rfl rfl rfl) ?_
    refine seqNil ?_
    refine hF3 _ _ ?_; clear hF3
    -- if t23
    refine wpT rfl ?_
    refine wpSeq fun F4 hF4 => ?_
    refine wpRegion ?_
    refine seqQ rfl rfl (yAssign (v := .bool _) rfl rfl) ?_
    refine seqNil ?_
    refine hF4 _ _ ?_; clear hF4
    -- ret
    refine wpRet (fin1 (v := .bool _) rfl rfl ?_)
    exact ⟨hE, by rw [impZ_no (fun h => hv h.1)]⟩
  · skip
    have hv : ValZ z := by simpa using hv
    obtain ⟨d1, d2, d3, d4⟩ := hv.dim
    refine seqQ rfl rfl (yLoadB hB2 rfl Try.underlying24 rfl Try.sizeOf24 rfl) ?_
    refine seqQ rfl rfl (yFieldAddr rfl Try.underlying43 rfl Try.sizeOf3 rfl rfl) ?_
    refine seqQ rfl rfl (yLoad rfl Try.underlying3 rfl rfl (hB3.cell rfl)) ?_
    -- e slot 14: call F46<farandole/farandoleref13.known> t11 t13
    refine seqE rfl rfl (stepCall rfl Try.call46 rfl ?_)
    refine (known_c z X A ca _).mono ?_
    rintro v H5 ⟨rfl, hx5⟩
    replace hE := hE.trans hx5
    replace hB2 := hB2.ext hx5
    replace hB3 := hB3.ext hx5
    clear hx5
    refine seqQ rfl rfl (yNot rfl rfl) ?_
    refine seqQ rfl rfl (yPickF (v := .bool _) rfl rfl rfl) ?_
    -- guard t17
    refine seqGB rfl rfl rfl rfl (fun hX => ?_) (fun hX => ?_)
    · skip
      have hX : ¬ knownB z X := by simpa using hX
      refine seqU rfl rfl ?_
      refine seqU rfl rfl ?_
      refine seqU rfl rfl ?_
      refine seqU rfl rfl ?_
      refine seqU rfl rfl ?_
      refine seqQ rfl rfl (yPickT (v := .bool _) rfl rfl rfl) ?_
      refine seqNil ?_
      refine hF3 _ _ ?_; clear hF3
      -- if t23
      refine wpT rfl ?_
      refine wpSeq fun F5 hF5 => ?_
      refine wpRegion ?_
      refine seqQ rfl rfl (yAssign (v := .bool _) rfl rfl) ?_
      refine seqNil ?_
      refine hF5 _ _ ?_; clear hF5
      -- ret
      refine wpRet (fin1 (v := .bool _) rfl rfl ?_)
      exact ⟨hE, by rw [impZ_no (fun h => hX h.2.1)]⟩
    · skip
      have hX : knownB z X := by simpa using hX
      refine seqQ rfl rfl (yLoadB hB2 rfl Try.underlying24 rfl Try.sizeOf24 rfl) ?_
      refine seqQ rfl rfl (yFieldAddr rfl Try.underlying43 rfl Try.sizeOf3 rfl rfl) ?_
      refine seqQ rfl rfl (yLoad rfl Try.underlying3 rfl rfl (hB3.cell rfl)) ?_
      -- e slot 21: call F46<farandole/farandoleref13.known> t18 t20
      refine seqE rfl rfl (stepCall rfl Try.call46 rfl ?_)
      refine (known_c z Y A ca _).mono ?_
      rintro v H6 ⟨rfl, hx6⟩
      replace hE := hE.trans hx6
      replace hB2 := hB2.ext hx6
      replace hB3 := hB3.ext hx6
      clear hx6
      refine seqQ rfl rfl (yNot rfl rfl) ?_
      refine seqQ rfl rfl (yPickF (v := .bool _) rfl rfl rfl) ?_
      refine seqNil ?_
      refine hF3 _ _ ?_; clear hF3
      -- if t23
      refine wpCond rfl (fun hY => ?_) (fun hY => ?_)
      · skip
        have hY : ¬ knownB z Y := by simpa using hY
        refine wpSeq fun F6 hF6 => ?_
        refine wpRegion ?_
        refine seqQ rfl rfl (yAssign (v := .bool _) rfl rfl) ?_
        refine seqNil ?_
        refine hF6 _ _ ?_; clear hF6
        -- ret
        refine wpRet (fin1 (v := .bool _) rfl rfl ?_)
        exact ⟨hE, by rw [impZ_no (fun h => hY h.2.2)]⟩
      · skip
        have hY : knownB z Y := by simpa using hY
        obtain ⟨i, hi, hi2⟩ := kn_pos hv hX
        obtain ⟨j, hj, hj2⟩ := kn_pos hv hY
        unfold knownB at hX hY
        refine wpSkip ?_
        refine hF2 _ _ ?_; clear hF2
        refine wpSeq fun F7 hF7 => ?_
        refine wpRegion ?_
        refine seqQ rfl rfl (yLoadB hB2 rfl Try.underlying24 rfl Try.sizeOf24 rfl) ?_
        -- e slot 26: call F16<farandole/farandoleref13.Close> t25
        refine seqE rfl rfl (stepCall rfl Try.call16 rfl ?_)
        have hc := rClose_c z A ca _ (hA.ext hE) h8
        rcases closeZ_cases z with ⟨e, _⟩ | ⟨L, e, -, hB⟩
        · skip
          rw [e] at hc
          refine hc.mono ?_
          rintro v H7 ⟨hx7, u, rfl, A', ca', rfl, ho⟩
          refine seqQ rfl rfl (yMove (v := .tuple _) rfl rfl) ?_
          refine seqQ rfl rfl (yExtract (v := .agg _) rfl rfl rfl) ?_
          refine seqQ rfl rfl (yExtract (v := .bool _) rfl rfl rfl) ?_
          refine seqN rfl rfl (nAlloc rfl Try.zeroValue24 rfl) (fun g5 H5 hx5 hB5 hg5 hl5 => ?_)
          -- e slot None: store T24 t5 t27
          refine seqE0 rfl rfl (stepStoreB rfl (by kernel_rfl) rfl rfl rfl hB5 rfl ?_)
          intro H8 hB8 hK8
          refine seqQ rfl rfl (yAssign (v := .bool _) rfl rfl) ?_
          refine seqNil ?_
          refine hF7 _ _ ?_; clear hF7
          refine wpSeq fun F8 hF8 => ?_
          refine wpRegionD Try_mixed [.q, .q, .q, .q, .q, .q, .q, .q, .q, .q, .q, .q, .q, .q, .q, .q, .q, .q, .q, .q, .q, .q, .q] 20 [0, 1, 3, 7, 15, 7, 39, 103, 7, 263, 775, 2023, 7, 4103, 16359, 32743, 65535, 131071, 7, 262151, 1048575, 2097151, 4194303] [] (by kernel_rfl) _ rfl [0, 1, 2, 3, 4, 5, 6, 7, 8, 9, 10, 11, 12, 13, 14, 15, 16, 17, 18, 19] rfl (by simp) ?_
          refine lexQ rfl rfl rfl rfl (fun H hM => (yMove (v := .bool _) rfl rfl)) ?_
          refine lexQ rfl rfl rfl rfl (fun H hM => (yNot rfl rfl)) ?_
          refine lexQ rfl rfl rfl rfl (fun H hM => (yMove (v := .bool true) rfl rfl)) ?_
          refine lexU rfl rfl rfl ?_
          refine lexU rfl rfl rfl ?_
          refine lexU rfl rfl rfl ?_
          refine lexU rfl rfl rfl ?_
          refine lexU rfl rfl rfl ?_
          refine lexU rfl rfl rfl ?_
          refine lexU rfl rfl rfl ?_
          refine lexU rfl rfl rfl ?_
          refine lexU rfl rfl rfl ?_
          refine lexU rfl rfl rfl ?_
          refine lexU rfl rfl rfl ?_
          refine lexU rfl rfl rfl ?_
          refine lexU rfl rfl rfl ?_
          refine lexU rfl rfl rfl ?_
          refine lexU rfl rfl rfl ?_
          refine lexU rfl rfl rfl ?_
          refine lexU rfl rfl rfl ?_
          -- tail
          refine lexNil0 rfl (fun hM => ?_)
          refine seqU rfl rfl ?_
          refine seqQ rfl rfl (yPickT (v := .bool _) rfl rfl rfl) ?_
          refine seqQ rfl rfl (yAssign (v := .bool _) rfl rfl) ?_
          refine seqNil ?_
          refine hF8 _ _ ?_; clear hF8
          -- ret
          refine wpRet (fin1 (v := .bool _) rfl rfl ?_)
          have s1 := hE.size
          have s2 := hx7.size
          exact ⟨((hE.trans hx7).trans hx5).mine hK8 (by simp; omega), by rw [impZ_empty ⟨hv, hX, hY⟩ e]⟩
        · skip
          rw [e] at hc
          refine hc.mono ?_
          rintro v H7 ⟨hx7, u, rfl, A', ca', rfl, ho⟩
          refine seqQ rfl rfl (yMove (v := .tuple _) rfl rfl) ?_
          refine seqQ rfl rfl (yExtract (v := .agg _) rfl rfl rfl) ?_
          refine seqQ rfl rfl (yExtract (v := .bool _) rfl rfl rfl) ?_
          refine seqN rfl rfl (nAlloc rfl Try.zeroValue24 rfl) (fun g5 H5 hx5 hB5 hg5 hl5 => ?_)
          -- e slot None: store T24 t5 t27
          refine seqE0 rfl rfl (stepStoreB rfl (by kernel_rfl) rfl rfl rfl hB5 rfl ?_)
          intro H8 hB8 hK8
          have s1 := hE.size
          have s2 := hx7.size
          have l3 := hB3.lt
          have hE8 := ((hE.trans hx7).trans hx5).mine hK8 (by simp; omega)
          have b3 : Blk H8 g3 _ _ := ((hB3.ext hx7).ext hx5).keep hK8 (by simp; omega)
          have b2 : Blk H8 g2 _ _ := ((hB2.ext hx7).ext hx5).keep hK8 (by have := hB2.lt; simp; omega)
          have rd8 : Rd eInt H8 A' L := ((Own.rd ho).2.ext hx5).keep hK8 (by
            intro p e
            subst e
            have := (ho.lt p.block rfl).2
            simp
            omega)
          have hl := hB.len
          obtain ⟨q, eq, hq⟩ := rdM rd8 hl hi2 hj2
          subst eq
          have hpos := idx_lt hi2 hj2
          have hmul : In64 ((i : Int) * (z.N + 1)) ∧ In64 ((i : Int) * (z.N + 1) + Y) ∧ In64 ((i : Int) * (z.N + 1) + Y + 1) := by
            rw [hv.succ, ← Int.natCast_mul]
            have := mul25 (a := i) (b := dm z) (by omega) d3
            unfold In64
            omega
          have hidx : (i : Int) * (z.N + 1) + Y + 1 = ((i * dm z + j : Nat) : Int) := by rw [Int.add_assoc, hv.succ, hj]; exact idx_e
          refine seqQ rfl rfl (yAssign (v := .bool _) rfl rfl) ?_
          refine seqNil ?_
          refine hF7 _ _ ?_; clear hF7
          refine wpSeq fun F9 hF9 => ?_
          refine wpRegionD Try_mixed [.q, .q, .q, .q, .q, .q, .q, .q, .q, .q, .q, .q, .q, .q, .q, .q, .q, .q, .q, .q, .q, .q, .q] 20 [0, 1, 3, 7, 15, 7, 39, 103, 7, 263, 775, 2023, 7, 4103, 16359, 32743, 65535, 131071, 7, 262151, 1048575, 2097151, 4194303] [] (by kernel_rfl) _ rfl [0, 1, 2, 3, 4, 5, 6, 7, 8, 9, 10, 11, 12, 13, 14, 15, 16, 17, 18, 19] rfl (by simp) ?_
          refine lexQ rfl rfl rfl rfl (fun H hM => (yMove (v := .bool _) rfl rfl)) ?_
          refine lexQ rfl rfl rfl rfl (fun H hM => (yNot rfl rfl)) ?_
          refine lexQ rfl rfl rfl rfl (fun H hM => (yMove (v := .bool false) rfl rfl)) ?_
          refine lexQ rfl rfl rfl rfl (fun H hM => (yFieldAddr rfl Try.underlying24 rfl Try.sizeOf22 rfl rfl)) ?_
          refine lexQ rfl rfl rfl rfl (fun H hM => (yLoad rfl Try.underlying22 rfl rfl (hM.ext.cell (hB8.cell rfl)))) ?_
          refine lexQ rfl rfl rfl rfl (fun H hM => (yFieldAddr rfl Try.underlying43 rfl Try.sizeOf3 rfl rfl)) ?_
          refine lexQ rfl rfl rfl rfl (fun H hM => (yLoad rfl Try.underlying3 rfl rfl (hM.ext.cell (b3.cell rfl)))) ?_
          refine lexQ rfl rfl rfl rfl (fun H hM => (yAddE rfl rfl rfl (by unfold In64; omega) hi)) ?_
          refine lexQ rfl rfl rfl rfl (fun H hM => (yFieldAddr rfl Try.underlying24 rfl Try.sizeOf3 rfl rfl)) ?_
          refine lexQ rfl rfl rfl rfl (fun H hM => (yLoad rfl Try.underlying3 rfl rfl (hM.ext.cell (b2.cell rfl)))) ?_
          refine lexQ rfl rfl rfl rfl (fun H hM => (yAdd rfl rfl rfl (by unfold In64; omega))) ?_
          refine lexQ rfl rfl rfl rfl (fun H hM => (yMul rfl rfl rfl hmul.1)) ?_
          refine lexQ rfl rfl rfl rfl (fun H hM => (yFieldAddr rfl Try.underlying43 rfl Try.sizeOf3 rfl rfl)) ?_
          refine lexQ rfl rfl rfl rfl (fun H hM => (yLoad rfl Try.underlying3 rfl rfl (hM.ext.cell (b3.cell rfl)))) ?_
          refine lexQ rfl rfl rfl rfl (fun H hM => (yAdd rfl rfl rfl hmul.2.1)) ?_
          refine lexQ rfl rfl rfl rfl (fun H hM => (yAddE rfl rfl rfl hmul.2.2 hidx)) ?_
          refine lexQ rfl rfl rfl rfl (fun H hM => (yIdx1 rfl Try.underlying22 Try.sizeOf3 rfl rfl rfl (show i * dm z + j < L.length by omega))) ?_
          refine lexQ rfl rfl rfl rfl (fun H hM => (yLoad rfl Try.underlying3 rfl rfl (hM.ext.cell hq))) ?_
          refine lexQ rfl rfl rfl rfl (fun H hM => (yFieldAddr rfl Try.underlying43 rfl Try.sizeOf3 rfl rfl)) ?_
          refine lexQ rfl rfl rfl rfl (fun H hM => (yLoad rfl Try.underlying3 rfl rfl (hM.ext.cell (b3.cell rfl)))) ?_
          -- tail
          refine lexNil0 rfl (fun hM => ?_)
          refine seqQ rfl rfl (yLeq rfl rfl rfl) ?_
          refine seqQ rfl rfl (yPickF (v := .bool _) rfl rfl rfl) ?_
          refine seqQ rfl rfl (yAssign (v := .bool _) rfl rfl) ?_
          refine seqNil ?_
          refine hF9 _ _ ?_; clear hF9
          -- ret
          refine wpRet (fin1 (v := .bool _) rfl rfl ?_)
          exact ⟨hE8, by rw [impZ_yes ⟨hv, hX, hY⟩ e hi hj]⟩
end Go.Proofs.Ytjkbkmbblidipaa
