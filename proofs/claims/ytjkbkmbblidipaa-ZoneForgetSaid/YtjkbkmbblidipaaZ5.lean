/- Zones: Add (both); the document's New, Empty. -/
import Derived.Test.YtjkbkmbblidipaaZ4
namespace Go.Proofs.Ytjkbkmbblidipaa
open Go.RowKit

set_option maxRecDepth 100000 in
theorem kn_pos {z : Zn} {X : Int} (hv : ValZ z) (h : knownB z X) : ∃ i : Nat, X + 1 = (i : Int) ∧ i < dm z := by
  obtain ⟨h1, h2⟩ := h
  have := hv.dim.1
  exact ⟨(X + 1).toNat, by omega, by omega⟩
set_option maxRecDepth 100000 in
theorem addZ_bad {z : Zn} {X Y C : Int} (h : ¬ ValZ z) : addZ z X Y C = (zn0, 1) := if_pos h
set_option maxRecDepth 100000 in
theorem addZ_rng {z : Zn} {X Y C : Int} (h : ValZ z) (h' : ¬ (knownB z X ∧ knownB z Y)) : addZ z X Y C = (zn0, 2) := by
  unfold addZ
  rw [if_neg (by simpa using h), if_pos h']
set_option maxRecDepth 100000 in
theorem add_c (z : Zn) (X Y C : Int) (A : Option Addr) (ca : Nat) (H : Heap) (hA : Rd eInt H A z.b) :
    CallsH Try.prog 23 [.agg (znC z A ca).toArray, .agg [.int .i64 X, .int .i64 Y, .int .i64 C].toArray] H fun v H' => Ext H H' ∧ ∃ u, v = .tuple #[u, .int .i64 (addZ z X Y C).2] ∧ ZO H' H.size u (addZ z X Y C).1 := by
  refine callsH_of Try.func23 rfl Try.ntmps23 (Nat.le_of_ble_eq_true rfl) ?_
  refine wpSeq fun F1 hF1 => ?_
  refine wpRegion ?_
  refine seqN rfl rfl (nBoxA rfl rfl) (fun g2 H2 hx2 hB2 hg2 hl2 => ?_)
  refine seqN rfl rfl (nBoxA rfl rfl) (fun g3 H3 hx3 hB3 hg3 hl3 => ?_)
  refine seqN rfl rfl (nAlloc rfl Try.zeroValue27 rfl) (fun g4 H4 hx4 hB4 hg4 hl4 => ?_)
  refine seqQ rfl rfl (yAssign (v := .int _ _) rfl rfl) ?_
  refine seqNil ?_
  refine hF1 _ _ ?_; clear hF1
  refine wpSeq fun F2 hF2 => ?_
  refine wpSeq fun F3 hF3 => ?_
  refine wpRegion ?_
  refine seqQ rfl rfl (yLoadB ((hB2.ext hx3).ext hx4) rfl Try.underlying27 rfl Try.sizeOf27 rfl) ?_
  -- e slot 9: call F27<farandole/zone.Valid> t8
  refine seqE rfl rfl (stepCall rfl Try.call27 rfl ?_)
  refine (zvalid_c z A ca _ (((hA.ext hx2).ext hx3).ext hx4)).mono ?_
  rintro v H5 ⟨rfl, hx5⟩
  have hE := ((hx2.trans hx3).trans hx4).trans hx5
  have s4 := Nat.le_trans hx2.size hx3.size
  replace hB2 := ((hB2.ext hx3).ext hx4).ext hx5
  replace hB3 := (hB3.ext hx4).ext hx5
  replace hB4 := hB4.ext hx5
  clear hx2 hx3 hx4 hx5
  refine seqQ rfl rfl (yNot rfl rfl) ?_
  refine seqNil ?_
  refine hF3 _ _ ?_; clear hF3
  -- if t10
  refine wpCond rfl (fun hv => ?_) (fun hv => ?_)
  · skip
    have hv : ¬ ValZ z := by simpa using hv
    refine wpSeq fun F4 hF4 => ?_
    refine wpRegion ?_
    refine seqQ rfl rfl (yBuild (pl := [(0, 1), (1, 1)]) (vs := []) rfl Try.underlying27 Try.zeroValue27 rfl (by unfold Places; kernel_rfl) rfl rfl) ?_
    -- e slot None: store T27 t4 t11
    refine seqE0 rfl rfl (stepStoreB rfl (by kernel_rfl) rfl rfl rfl hB4 rfl ?_)
    intro H6 hB6 hK6
    refine seqQ rfl rfl (yAssign (v := .int _ _) rfl rfl) ?_
    refine seqNil ?_
    refine hF4 _ _ ?_; clear hF4
    -- ret
    refine wpRet (finR2 rfl (resC Try.underlying27 rfl (by kernel_rfl) rfl hB6) (resT (v := .int _ _) rfl) ?_)
    rw [addZ_bad hv]
    exact ⟨hE.mine hK6 (by simp; omega), _, rfl, ZO.zero _ _⟩
  · skip
    have hv : ValZ z := by simpa using hv
    obtain ⟨d1, d2, d3, d4⟩ := hv.dim
    refine wpSkip ?_
    refine hF2 _ _ ?_; clear hF2
    refine wpSeq fun F5 hF5 => ?_
    refine wpSeq fun F6 hF6 => ?_
    refine wpRegion ?_
    refine seqQ rfl rfl (yLoadB hB2 rfl Try.underlying27 rfl Try.sizeOf27 rfl) ?_
    refine seqQ rfl rfl (yFieldAddr rfl Try.underlying43 rfl Try.sizeOf3 rfl rfl) ?_
    refine seqQ rfl rfl (yLoad rfl Try.underlying3 rfl rfl (hB3.cell rfl)) ?_
    -- e slot 15: call F45<farandole/zone.inside> t12 t14
    refine seqE rfl rfl (stepCall rfl Try.call45 rfl ?_)
    refine (inside_c z X A ca _).mono ?_
    rintro v H6 ⟨rfl, hx6⟩
    replace hE := hE.trans hx6
    replace hB2 := hB2.ext hx6
    replace hB3 := hB3.ext hx6
    replace hB4 := hB4.ext hx6
    clear hx6
    refine seqQ rfl rfl (yNot rfl rfl) ?_
    -- guard t17
    refine seqGB rfl rfl rfl rfl (fun hX => ?_) (fun hX => ?_)
    · skip
      have hX : ¬ knownB z X := by simpa using hX
      refine seqU rfl rfl ?_
      refine seqU rfl rfl ?_
      refine seqU rfl rfl ?_
      refine seqU rfl rfl ?_
      refine seqU rfl rfl ?_
      refine seqQ rfl rfl (yPickT (v := .bool _) rfl rfl rfl) ?_
      refine seqNil ?_
      refine hF6 _ _ ?_; clear hF6
      -- if t23
      refine wpT rfl ?_
      refine wpSeq fun F7 hF7 => ?_
      refine wpRegion ?_
      refine seqQ rfl rfl (yBuild (pl := [(0, 1), (1, 1)]) (vs := []) rfl Try.underlying27 Try.zeroValue27 rfl (by unfold Places; kernel_rfl) rfl rfl) ?_
      -- e slot None: store T27 t4 t24
      refine seqE0 rfl rfl (stepStoreB rfl (by kernel_rfl) rfl rfl rfl hB4 rfl ?_)
      intro H6 hB6 hK6
      refine seqQ rfl rfl (yAssign (v := .int _ _) rfl rfl) ?_
      refine seqNil ?_
      refine hF7 _ _ ?_; clear hF7
      -- ret
      refine wpRet (finR2 rfl (resC Try.underlying27 rfl (by kernel_rfl) rfl hB6) (resT (v := .int _ _) rfl) ?_)
      rw [addZ_rng hv (fun h => hX h.1)]
      exact ⟨hE.mine hK6 (by simp; omega), _, rfl, ZO.zero _ _⟩
    · skip
      have hX : knownB z X := by simpa using hX
      refine seqQ rfl rfl (yLoadB hB2 rfl Try.underlying27 rfl Try.sizeOf27 rfl) ?_
      refine seqQ rfl rfl (yFieldAddr rfl Try.underlying43 rfl Try.sizeOf3 rfl rfl) ?_
      refine seqQ rfl rfl (yLoad rfl Try.underlying3 rfl rfl (hB3.cell rfl)) ?_
      -- e slot 21: call F45<farandole/zone.inside> t18 t20
      refine seqE rfl rfl (stepCall rfl Try.call45 rfl ?_)
      refine (inside_c z Y A ca _).mono ?_
      rintro v H7 ⟨rfl, hx7⟩
      replace hE := hE.trans hx7
      replace hB2 := hB2.ext hx7
      replace hB3 := hB3.ext hx7
      replace hB4 := hB4.ext hx7
      clear hx7
      refine seqQ rfl rfl (yNot rfl rfl) ?_
      refine seqQ rfl rfl (yPickF (v := .bool _) rfl rfl rfl) ?_
      refine seqNil ?_
      refine hF6 _ _ ?_; clear hF6
      -- if t23
      refine wpCond rfl (fun hY => ?_) (fun hY => ?_)
      · skip
        have hY : ¬ knownB z Y := by simpa using hY
        refine wpSeq fun F8 hF8 => ?_
        refine wpRegion ?_
        refine seqQ rfl rfl (yBuild (pl := [(0, 1), (1, 1)]) (vs := []) rfl Try.underlying27 Try.zeroValue27 rfl (by unfold Places; kernel_rfl) rfl rfl) ?_
        -- e slot None: store T27 t4 t24
        refine seqE0 rfl rfl (stepStoreB rfl (by kernel_rfl) rfl rfl rfl hB4 rfl ?_)
        intro H6 hB6 hK6
        refine seqQ rfl rfl (yAssign (v := .int _ _) rfl rfl) ?_
        refine seqNil ?_
        refine hF8 _ _ ?_; clear hF8
        -- ret
        refine wpRet (finR2 rfl (resC Try.underlying27 rfl (by kernel_rfl) rfl hB6) (resT (v := .int _ _) rfl) ?_)
        rw [addZ_rng hv (fun h => hY h.2)]
        exact ⟨hE.mine hK6 (by simp; omega), _, rfl, ZO.zero _ _⟩
      · skip
        have hY : knownB z Y := by simpa using hY
        obtain ⟨i, hi, hi2⟩ := kn_pos hv hX
        obtain ⟨j, hj, hj2⟩ := kn_pos hv hY
        have hpos := idx_lt hi2 hj2
        refine wpSkip ?_
        refine hF5 _ _ ?_; clear hF5
        refine wpSeq fun F9 hF9 => ?_
        refine wpRegionD Try_mixed [.q, .q, .q, .q, .e, .q, .n, .e] 7 [0, 1, 0, 4, 12, 31, 0, 127] [] (by kernel_rfl) _ rfl [0, 1, 2, 3, 4, 5, 6] rfl (by simp) ?_
        refine lexQ rfl rfl rfl rfl (fun H hM => (yFieldAddr rfl Try.underlying27 rfl Try.sizeOf3 rfl rfl)) ?_
        refine lexQ rfl rfl rfl rfl (fun H hM => (yLoad rfl Try.underlying3 rfl rfl (hM.ext.cell (hB2.cell rfl)))) ?_
        refine lexQ rfl rfl rfl rfl (fun H hM => (yFieldAddr rfl Try.underlying27 rfl Try.sizeOf22 rfl rfl)) ?_
        refine lexQ rfl rfl rfl rfl (fun H hM => (yLoad rfl Try.underlying22 rfl rfl (hM.ext.cell (hB2.cell rfl)))) ?_
        -- e slot 29: call F41<slices.Clone[[]int,int]> t28
        refine lexE rfl rfl rfl rfl (fun H29 hX29 hM29 hN29 => stepCall rfl Try.call41 rfl ?_)
        refine (cloneI_c A ca z.b _ (((hA.ext hE).ext hX29).ext (Ext.refl _)) (by have := mul25 d3 d3; omega)).mono ?_
        rintro v H8 ⟨hown, hx8⟩
        obtain ⟨A', ca', rfl, -, hrd, hb⟩ := hown.form
        obtain ⟨p, rfl, hp⟩ := hrd.at1 (k := i * dm z + j) (by omega)
        obtain ⟨hb1, hb2, hb3⟩ := hb p rfl
        refine lexFr (F := [p.block]) hx8 (by simp; omega) (by simp) ?_
        refine lexQ rfl rfl rfl rfl (fun H hM => (yBuild (pl := [(0, 1), (1, 1)]) (vs := [(0, .int _ _), (1, .slice _ _ _)]) rfl Try.underlying27 Try.zeroValue27 rfl (by unfold Places; kernel_rfl) rfl rfl)) ?_
        refine lexNB rfl rfl rfl rfl (nAlloc rfl Try.zeroValue27 rfl) (fun g6 hg6 hne6 => ?_)
        -- tail
        refine lexNilM (fun Hf hXf hMf hNf hFf => ?_)
        have hB6 := NF.blk 6 hNf (.head _)
        have n6 : g6 ≠ p.block := by simpa using hFf _ (.head _)
        -- e slot None: store T27 t6 t30
        refine seqE0 rfl rfl (stepStoreB rfl (by kernel_rfl) rfl rfl rfl hB6 rfl ?_)
        intro H9 hB9 hK9
        have hXX := (hX29.trans hx8).trans hXf
        have sX := hX29.size
        have sE := hE.size
        have l4 := hB4.lt
        have st : ZSt H g4 g6 27 z.N p z.b.length ca' z.b H9 :=
          ⟨(hE.trans hXX).mine hK9 (by simp; omega), ((hown.mono (by omega)).ext hXf).keep hK9 (by intro b e; obtain rfl := Option.some.inj e; simp; exact fun h => n6 h.symm), (hB4.ext hXX).keep hK9 (by simp; omega), hB9, by omega, n6, by omega, by omega⟩
        have hB3' : Blk H9 g3 [.int .i64 X, .int .i64 Y, .int .i64 C] _ := (hB3.ext hXX).keep hK9 (by simp; have := hB3.lt; omega)
        have hB2' := (hB2.ext hXX).keep hK9 (by simp; have := hB2.lt; omega)
        have hg := List.getD_eq_getElem?_getD (l := z.b) (i := i * dm z + j) (a := 0)
        rw [List.getElem?_eq_getElem (by omega), Option.getD_some] at hg
        obtain ⟨q, e, hq⟩ := (Own.rd st.own).2.at1 (k := i * dm z + j) (by omega)
        obtain rfl := Option.some.inj e
        unfold knownB at hX hY
        have hmul : In64 ((X + 1) * (z.N + 1)) ∧ In64 ((X + 1) * (z.N + 1) + Y) ∧ In64 ((X + 1) * (z.N + 1) + Y + 1) := by
          rw [hi, hv.succ, ← Int.natCast_mul]
          have := mul25 (a := i) (b := dm z) (by omega) d3
          unfold In64
          omega
        have hidx : (X + 1) * (z.N + 1) + Y + 1 = ((i * dm z + j : Nat) : Int) := by rw [Int.add_assoc, hi, hv.succ, hj]; exact idx_e
        refine seqNil ?_
        refine hF9 _ _ ?_; clear hF9
        refine wpSeq fun F10 hF10 => ?_
        refine wpRegion ?_
        refine seqQ rfl rfl (yFieldAddr rfl Try.underlying43 rfl Try.sizeOf3 rfl rfl) ?_
        refine seqQ rfl rfl (yLoad rfl Try.underlying3 rfl rfl (hB3'.cell rfl)) ?_
        refine seqQ rfl rfl (yAdd rfl rfl rfl (by unfold In64; omega)) ?_
        refine seqQ rfl rfl (yFieldAddr rfl Try.underlying27 rfl Try.sizeOf3 rfl rfl) ?_
        refine seqQ rfl rfl (yLoad rfl Try.underlying3 rfl rfl (hB2'.cell rfl)) ?_
        refine seqQ rfl rfl (yAdd rfl rfl rfl (by unfold In64; omega)) ?_
        refine seqQ rfl rfl (yMul rfl rfl rfl hmul.1) ?_
        refine seqQ rfl rfl (yFieldAddr rfl Try.underlying43 rfl Try.sizeOf3 rfl rfl) ?_
        refine seqQ rfl rfl (yLoad rfl Try.underlying3 rfl rfl (hB3'.cell rfl)) ?_
        refine seqQ rfl rfl (yAdd rfl rfl rfl hmul.2.1) ?_
        refine seqQ rfl rfl (yAddE rfl rfl rfl hmul.2.2 hidx) ?_
        refine seqQ rfl rfl (yAssign (v := .int _ _) rfl rfl) ?_
        refine seqNil ?_
        refine hF10 _ _ ?_; clear hF10
        refine wpSeq fun F11 hF11 => ?_
        -- region 7
        refine wpRegionD Try_mixed [.q, .q, .q, .q, .q, .q, .q, .q, .q, .q, .q, .q, .q, .e] 12 [0, 1, 0, 0, 8, 0, 56, 120, 0, 256, 768, 2040, 4095, 8191] [] (by kernel_rfl) _ rfl [0, 1, 2, 3, 4, 5, 6, 7, 8, 9, 10, 11] rfl (by simp) ?_
        refine lexQ rfl rfl rfl rfl (fun H hM => (yFieldAddr rfl Try.underlying27 rfl Try.sizeOf22 rfl rfl)) ?_
        refine lexQ rfl rfl rfl rfl (fun H hM => (yLoad rfl Try.underlying22 rfl rfl (hM.ext.cell (st.b5.cell rfl)))) ?_
        refine lexQ rfl rfl rfl rfl (fun H hM => (yMove (v := .int _ _) rfl rfl)) ?_
        refine lexQ rfl rfl rfl rfl (fun H hM => (yFieldAddr rfl Try.underlying27 rfl Try.sizeOf22 rfl rfl)) ?_
        refine lexQ rfl rfl rfl rfl (fun H hM => (yLoad rfl Try.underlying22 rfl rfl (hM.ext.cell (st.b5.cell rfl)))) ?_
        refine lexQ rfl rfl rfl rfl (fun H hM => (yMove (v := .int _ _) rfl rfl)) ?_
        refine lexQ rfl rfl rfl rfl (fun H hM => (yIdx1 rfl Try.underlying22 Try.sizeOf3 rfl rfl rfl (by omega))) ?_
        refine lexQ rfl rfl rfl rfl (fun H hM => (yLoad rfl Try.underlying3 rfl rfl (hM.ext.cell hq))) ?_
        refine lexQ rfl rfl rfl rfl (fun H hM => (yFieldAddr rfl Try.underlying43 rfl Try.sizeOf3 rfl rfl)) ?_
        refine lexQ rfl rfl rfl rfl (fun H hM => (yLoad rfl Try.underlying3 rfl rfl (hM.ext.cell (hB3'.cell rfl)))) ?_
        refine lexQ rfl rfl rfl rfl (fun H hM => (yMax rfl rfl rfl)) ?_
        refine lexQ rfl rfl rfl rfl (fun H hM => (yMin rfl rfl rfl)) ?_
        -- tail
        refine lexNil0 rfl (fun hM => ?_)
        refine seqQ rfl rfl (yIdx1 rfl Try.underlying22 Try.sizeOf3 rfl rfl rfl (by omega)) ?_
        -- e slot None: store T3 t54 t53
        refine seqE0 rfl rfl (stepStoreOwn st.own rfl Try.sizeOf3 rfl rfl rfl rfl (by omega) ?_)
        intro H10 hown10 hK10
        have st10 := st.store hown10 hK10
        refine seqNil ?_
        refine hF11 _ _ ?_; clear hF11
        refine wpSeq fun F12 hF12 => ?_
        refine wpRegion ?_
        refine seqQ rfl rfl (yLoadB st10.b5 rfl Try.underlying27 rfl Try.sizeOf27 rfl) ?_
        -- e slot None: store T27 t4 t55
        refine seqE0 rfl rfl (stepStoreB rfl (by kernel_rfl) rfl rfl rfl st10.b2 rfl ?_)
        intro H11 hB11 hK11
        refine seqQ rfl rfl (yAssign (v := .int _ _) rfl rfl) ?_
        refine seqNil ?_
        refine hF12 _ _ ?_; clear hF12
        -- ret
        refine wpRet (finR2 rfl (resC Try.underlying27 rfl (by kernel_rfl) rfl hB11) (resT (v := .int _ _) rfl) ?_)
        have hd := st10.done hK11
        rw [addZ_ok hv hX hY, addZ_idx hv hi hj]
        refine ⟨hd.1, _, rfl, ?_⟩
        have := ZO.of (N := z.N) hd.2
        unfold addL
        rw [hg]
        exact this
set_option maxRecDepth 100000 in
theorem rAdd_c (z : Zn) (X Y C : Int) (A : Option Addr) (ca : Nat) (H : Heap) (hA : Rd eInt H A z.b) :
    CallsH Try.prog 24 [.agg (znC z A ca).toArray, .agg [.int .i64 X, .int .i64 Y, .int .i64 C].toArray] H fun v H' => Ext H H' ∧ ∃ u, v = .tuple #[u, .int .i64 (addZ z X Y C).2] ∧ ZO H' H.size u (addZ z X Y C).1 := by
  refine callsH_of Try.func24 rfl Try.ntmps24 (Nat.le_of_ble_eq_true rfl) ?_
  refine wpSeq fun F1 hF1 => ?_
  refine wpRegion ?_
  refine seqN rfl rfl (nBoxA rfl rfl) (fun g2 H2 hx2 hB2 hg2 hl2 => ?_)
  refine seqN rfl rfl (nBoxA rfl rfl) (fun g3 H3 hx3 hB3 hg3 hl3 => ?_)
  refine seqN rfl rfl (nAlloc rfl Try.zeroValue24 rfl) (fun g4 H4 hx4 hB4 hg4 hl4 => ?_)
  refine seqQ rfl rfl (yAssign (v := .int _ _) rfl rfl) ?_
  refine seqNil ?_
  refine hF1 _ _ ?_; clear hF1
  refine wpSeq fun F2 hF2 => ?_
  refine wpBlock ?_
  refine wpSeq fun F3 hF3 => ?_
  refine wpRegion ?_
  refine seqQ rfl rfl (yLoadB ((hB2.ext hx3).ext hx4) rfl Try.underlying24 rfl Try.sizeOf24 rfl) ?_
  -- e slot 10: call F28<farandole/farandoleref13.Valid> t9
  refine seqE rfl rfl (stepCall rfl Try.call28 rfl ?_)
  refine (rvalid_c z A ca _ (((hA.ext hx2).ext hx3).ext hx4)).mono ?_
  rintro v H5 ⟨rfl, hx5⟩
  have hE := ((hx2.trans hx3).trans hx4).trans hx5
  have s4 := Nat.le_trans hx2.size hx3.size
  replace hB2 := ((hB2.ext hx3).ext hx4).ext hx5
  replace hB3 := (hB3.ext hx4).ext hx5
  replace hB4 := hB4.ext hx5
  clear hx2 hx3 hx4 hx5
  refine seqQ rfl rfl (yNot rfl rfl) ?_
  refine seqQ rfl rfl (yAssign (v := .bool _) rfl rfl) ?_
  refine seqNil ?_
  refine hF3 _ _ ?_; clear hF3
  -- if t8
  refine wpCond rfl (fun hv => ?_) (fun hv => ?_)
  · skip
    have hv : ¬ ValZ z := by simpa using hv
    refine wpSeq fun F4 hF4 => ?_
    refine wpRegion ?_
    refine seqQ rfl rfl (yBuild (pl := [(0, 1), (1, 1)]) (vs := []) rfl Try.underlying24 Try.zeroValue24 rfl (by unfold Places; kernel_rfl) rfl rfl) ?_
    -- e slot None: store T24 t4 t12
    refine seqE0 rfl rfl (stepStoreB rfl (by kernel_rfl) rfl rfl rfl hB4 rfl ?_)
    intro H6 hB6 hK6
    refine seqQ rfl rfl (yAssign (v := .int _ _) rfl rfl) ?_
    refine seqNil ?_
    refine hF4 _ _ ?_; clear hF4
    -- ret
    refine wpRet (finR2 rfl (resC Try.underlying24 rfl (by kernel_rfl) rfl hB6) (resT (v := .int _ _) rfl) ?_)
    rw [addZ_bad hv]
    exact ⟨hE.mine hK6 (by simp; omega), _, rfl, ZO.zero _ _⟩
  · skip
    have hv : ValZ z := by simpa using hv
    obtain ⟨d1, d2, d3, d4⟩ := hv.dim
    refine wpSeq fun F5 hF5 => ?_
    refine wpRegion ?_
    refine seqQ rfl rfl (yLoadB hB2 rfl Try.underlying24 rfl Try.sizeOf24 rfl) ?_
    refine seqQ rfl rfl (yFieldAddr rfl Try.underlying43 rfl Try.sizeOf3 rfl rfl) ?_
    refine seqQ rfl rfl (yLoad rfl Try.underlying3 rfl rfl (hB3.cell rfl)) ?_
    -- e slot 17: call F46<farandole/farandoleref13.known> t14 t16
    refine seqE rfl rfl (stepCall rfl Try.call46 rfl ?_)
    refine (known_c z X A ca _).mono ?_
    rintro v H6 ⟨rfl, hx6⟩
    replace hE := hE.trans hx6
    replace hB2 := hB2.ext hx6
    replace hB3 := hB3.ext hx6
    replace hB4 := hB4.ext hx6
    clear hx6
    refine seqQ rfl rfl (yNot rfl rfl) ?_
    -- guard t19
    refine seqGB rfl rfl rfl rfl (fun hX => ?_) (fun hX => ?_)
    · skip
      have hX : ¬ knownB z X := by simpa using hX
      refine seqU rfl rfl ?_
      refine seqU rfl rfl ?_
      refine seqU rfl rfl ?_
      refine seqU rfl rfl ?_
      refine seqU rfl rfl ?_
      refine seqQ rfl rfl (yPickT (v := .bool _) rfl rfl rfl) ?_
      refine seqQ rfl rfl (yAssign (v := .bool _) rfl rfl) ?_
      refine seqNil ?_
      refine hF5 _ _ ?_; clear hF5
      -- if t13
      refine wpT rfl ?_
      refine wpSeq fun F6 hF6 => ?_
      refine wpRegion ?_
      refine seqQ rfl rfl (yBuild (pl := [(0, 1), (1, 1)]) (vs := []) rfl Try.underlying24 Try.zeroValue24 rfl (by unfold Places; kernel_rfl) rfl rfl) ?_
      -- e slot None: store T24 t4 t26
      refine seqE0 rfl rfl (stepStoreB rfl (by kernel_rfl) rfl rfl rfl hB4 rfl ?_)
      intro H6 hB6 hK6
      refine seqQ rfl rfl (yAssign (v := .int _ _) rfl rfl) ?_
      refine seqNil ?_
      refine hF6 _ _ ?_; clear hF6
      -- ret
      refine wpRet (finR2 rfl (resC Try.underlying24 rfl (by kernel_rfl) rfl hB6) (resT (v := .int _ _) rfl) ?_)
      rw [addZ_rng hv (fun h => hX h.1)]
      exact ⟨hE.mine hK6 (by simp; omega), _, rfl, ZO.zero _ _⟩
    · skip
      have hX : knownB z X := by simpa using hX
      refine seqQ rfl rfl (yLoadB hB2 rfl Try.underlying24 rfl Try.sizeOf24 rfl) ?_
      refine seqQ rfl rfl (yFieldAddr rfl Try.underlying43 rfl Try.sizeOf3 rfl rfl) ?_
      refine seqQ rfl rfl (yLoad rfl Try.underlying3 rfl rfl (hB3.cell rfl)) ?_
      -- e slot 23: call F46<farandole/farandoleref13.known> t20 t22
      refine seqE rfl rfl (stepCall rfl Try.call46 rfl ?_)
      refine (known_c z Y A ca _).mono ?_
      rintro v H7 ⟨rfl, hx7⟩
      replace hE := hE.trans hx7
      replace hB2 := hB2.ext hx7
      replace hB3 := hB3.ext hx7
      replace hB4 := hB4.ext hx7
      clear hx7
      refine seqQ rfl rfl (yNot rfl rfl) ?_
      refine seqQ rfl rfl (yPickF (v := .bool _) rfl rfl rfl) ?_
      refine seqQ rfl rfl (yAssign (v := .bool _) rfl rfl) ?_
      refine seqNil ?_
      refine hF5 _ _ ?_; clear hF5
      -- if t13
      refine wpCond rfl (fun hY => ?_) (fun hY => ?_)
      · skip
        have hY : ¬ knownB z Y := by simpa using hY
        refine wpSeq fun F7 hF7 => ?_
        refine wpRegion ?_
        refine seqQ rfl rfl (yBuild (pl := [(0, 1), (1, 1)]) (vs := []) rfl Try.underlying24 Try.zeroValue24 rfl (by unfold Places; kernel_rfl) rfl rfl) ?_
        -- e slot None: store T24 t4 t26
        refine seqE0 rfl rfl (stepStoreB rfl (by kernel_rfl) rfl rfl rfl hB4 rfl ?_)
        intro H6 hB6 hK6
        refine seqQ rfl rfl (yAssign (v := .int _ _) rfl rfl) ?_
        refine seqNil ?_
        refine hF7 _ _ ?_; clear hF7
        -- ret
        refine wpRet (finR2 rfl (resC Try.underlying24 rfl (by kernel_rfl) rfl hB6) (resT (v := .int _ _) rfl) ?_)
        rw [addZ_rng hv (fun h => hY h.2)]
        exact ⟨hE.mine hK6 (by simp; omega), _, rfl, ZO.zero _ _⟩
      · skip
        have hY : knownB z Y := by simpa using hY
        obtain ⟨i, hi, hi2⟩ := kn_pos hv hX
        obtain ⟨j, hj, hj2⟩ := kn_pos hv hY
        have hpos := idx_lt hi2 hj2
        refine wpSkip ?_
        refine hF2 _ _ ?_; clear hF2
        refine wpSeq fun F8 hF8 => ?_
        refine wpRegionD Try_mixed [.q, .q, .n, .q, .q, .e, .q, .n, .e] 8 [0, 1, 0, 0, 8, 28, 63, 0, 255] [] (by kernel_rfl) _ rfl [0, 1, 2, 3, 4, 5, 6, 7] rfl (by simp) ?_
        refine lexQ rfl rfl rfl rfl (fun H hM => (yFieldAddr rfl Try.underlying24 rfl Try.sizeOf3 rfl rfl)) ?_
        refine lexQ rfl rfl rfl rfl (fun H hM => (yLoad rfl Try.underlying3 rfl rfl (hM.ext.cell (hB2.cell rfl)))) ?_
        refine lexNB rfl rfl rfl rfl (nBuildSlice (vs := []) rfl Try.underlying22 Try.sizeOf3 Try.zeroValue3 rfl rfl rfl rfl) (fun g29 hg29 hne29 => ?_)
        refine lexQ rfl rfl rfl rfl (fun H hM => (yFieldAddr rfl Try.underlying24 rfl Try.sizeOf22 rfl rfl)) ?_
        refine lexQ rfl rfl rfl rfl (fun H hM => (yLoad rfl Try.underlying22 rfl rfl (hM.ext.cell (hB2.cell rfl)))) ?_
        -- e slot 32: builtin append t29 t31 : [22, 22]
        have hn29 : ∀ z ∈ ([] : List NF), z.g ≠ g29 := by simp
        refine lexEG rfl rfl rfl rfl (by first | assumption | omega) (by first | (dsimp only; rfl) | kernel_rfl) hn29 (fun Hs hXs hMs hBs hFs => stepApp (c := eInt) (Own.lit (c := eInt) (l := []) (base := H7.size) hBs hg29 (by simp)) rfl Try.underlying22 elem_eInt rfl (by omega) rfl rfl rfl ((hA.ext hE).ext hMs.ext) (by have := mul25 d3 d3; simp; omega) (hMs.ext.size) ?_)
        intro v H8 hown hgrew
        rw [List.nil_append] at hown
        obtain ⟨A', ca', rfl, -, hrd, hb⟩ := hown.form
        obtain ⟨p, rfl, hp⟩ := hrd.at1 (k := i * dm z + j) (by omega)
        obtain ⟨hb1, hb2, hb3⟩ := hb p rfl
        have hx8 : Ext H7 H8 := hgrew.ext hMs.ext (by rintro g e; obtain rfl := Option.some.inj e; exact hg29)
        refine lexApp rfl hgrew (by simp) (by intro g e; exact (hown.lt g e).2) ?_
        refine lexQ rfl rfl rfl rfl (fun H hM => (yBuild (pl := [(0, 1), (1, 1)]) (vs := [(0, .int _ _), (1, .slice _ _ _)]) rfl Try.underlying24 Try.zeroValue24 rfl (by unfold Places; kernel_rfl) rfl rfl)) ?_
        refine lexNB rfl rfl rfl rfl (nAlloc rfl Try.zeroValue24 rfl) (fun g6 hg6 hne6 => ?_)
        -- tail
        refine lexNilM (fun Hf hXf hMf hNf hFf => ?_)
        have hB6 := NF.blk 7 hNf (.head _)
        have n6 : g6 ≠ p.block := fun e => hFf _ (.head _) (List.mem_append.2 (.inl (by rw [Option.mem_toList]; exact congrArg some e.symm)))
        -- e slot None: store T24 t6 t33
        refine seqE0 rfl rfl (stepStoreB rfl (by kernel_rfl) rfl rfl rfl hB6 rfl ?_)
        intro H9 hB9 hK9
        have hXX := hx8.trans hXf
        have sE := hE.size
        have l4 := hB4.lt
        have st : ZSt H g4 g6 24 z.N p z.b.length ca' z.b H9 :=
          ⟨(hE.trans hXX).mine hK9 (by simp; omega), ((hown.mono (by omega)).ext hXf).keep hK9 (by intro b e; obtain rfl := Option.some.inj e; simp; exact fun h => n6 h.symm), (hB4.ext hXX).keep hK9 (by simp; omega), hB9, by omega, n6, by omega, by omega⟩
        have hB3' : Blk H9 g3 [.int .i64 X, .int .i64 Y, .int .i64 C] _ := (hB3.ext hXX).keep hK9 (by simp; have := hB3.lt; omega)
        have hB2' := (hB2.ext hXX).keep hK9 (by simp; have := hB2.lt; omega)
        have hg := List.getD_eq_getElem?_getD (l := z.b) (i := i * dm z + j) (a := 0)
        rw [List.getElem?_eq_getElem (by omega), Option.getD_some] at hg
        obtain ⟨q, e, hq⟩ := (Own.rd st.own).2.at1 (k := i * dm z + j) (by omega)
        obtain rfl := Option.some.inj e
        unfold knownB at hX hY
        have hmul : In64 ((X + 1) * (z.N + 1)) ∧ In64 ((X + 1) * (z.N + 1) + Y) ∧ In64 ((X + 1) * (z.N + 1) + Y + 1) := by
          rw [hi, hv.succ, ← Int.natCast_mul]
          have := mul25 (a := i) (b := dm z) (by omega) d3
          unfold In64
          omega
        have hidx : (X + 1) * (z.N + 1) + Y + 1 = ((i * dm z + j : Nat) : Int) := by rw [Int.add_assoc, hi, hv.succ, hj]; exact idx_e
        refine seqNil ?_
        refine hF8 _ _ ?_; clear hF8
        refine wpSeq fun F9 hF9 => ?_
        refine wpRegion ?_
        refine seqQ rfl rfl (yFieldAddr rfl Try.underlying43 rfl Try.sizeOf3 rfl rfl) ?_
        refine seqQ rfl rfl (yLoad rfl Try.underlying3 rfl rfl (hB3'.cell rfl)) ?_
        refine seqQ rfl rfl (yAdd rfl rfl rfl (by unfold In64; omega)) ?_
        refine seqQ rfl rfl (yFieldAddr rfl Try.underlying24 rfl Try.sizeOf3 rfl rfl) ?_
        refine seqQ rfl rfl (yLoad rfl Try.underlying3 rfl rfl (hB2'.cell rfl)) ?_
        refine seqQ rfl rfl (yAdd rfl rfl rfl (by unfold In64; omega)) ?_
        refine seqQ rfl rfl (yMul rfl rfl rfl hmul.1) ?_
        refine seqQ rfl rfl (yFieldAddr rfl Try.underlying43 rfl Try.sizeOf3 rfl rfl) ?_
        refine seqQ rfl rfl (yLoad rfl Try.underlying3 rfl rfl (hB3'.cell rfl)) ?_
        refine seqQ rfl rfl (yAdd rfl rfl rfl hmul.2.1) ?_
        refine seqQ rfl rfl (yAddE rfl rfl rfl hmul.2.2 hidx) ?_
        refine seqQ rfl rfl (yAssign (v := .int _ _) rfl rfl) ?_
        refine seqNil ?_
        refine hF9 _ _ ?_; clear hF9
        refine wpSeq fun F10 hF10 => ?_
        -- region 7
        refine wpRegionD Try_mixed [.q, .q, .q, .q, .q, .q, .q, .q, .q, .q, .q, .q, .q, .e] 12 [0, 1, 0, 0, 8, 0, 56, 120, 0, 256, 768, 2040, 4095, 8191] [] (by kernel_rfl) _ rfl [0, 1, 2, 3, 4, 5, 6, 7, 8, 9, 10, 11] rfl (by simp) ?_
        refine lexQ rfl rfl rfl rfl (fun H hM => (yFieldAddr rfl Try.underlying24 rfl Try.sizeOf22 rfl rfl)) ?_
        refine lexQ rfl rfl rfl rfl (fun H hM => (yLoad rfl Try.underlying22 rfl rfl (hM.ext.cell (st.b5.cell rfl)))) ?_
        refine lexQ rfl rfl rfl rfl (fun H hM => (yMove (v := .int _ _) rfl rfl)) ?_
        refine lexQ rfl rfl rfl rfl (fun H hM => (yFieldAddr rfl Try.underlying24 rfl Try.sizeOf22 rfl rfl)) ?_
        refine lexQ rfl rfl rfl rfl (fun H hM => (yLoad rfl Try.underlying22 rfl rfl (hM.ext.cell (st.b5.cell rfl)))) ?_
        refine lexQ rfl rfl rfl rfl (fun H hM => (yMove (v := .int _ _) rfl rfl)) ?_
        refine lexQ rfl rfl rfl rfl (fun H hM => (yIdx1 rfl Try.underlying22 Try.sizeOf3 rfl rfl rfl (by omega))) ?_
        refine lexQ rfl rfl rfl rfl (fun H hM => (yLoad rfl Try.underlying3 rfl rfl (hM.ext.cell hq))) ?_
        refine lexQ rfl rfl rfl rfl (fun H hM => (yFieldAddr rfl Try.underlying43 rfl Try.sizeOf3 rfl rfl)) ?_
        refine lexQ rfl rfl rfl rfl (fun H hM => (yLoad rfl Try.underlying3 rfl rfl (hM.ext.cell (hB3'.cell rfl)))) ?_
        refine lexQ rfl rfl rfl rfl (fun H hM => (yMax rfl rfl rfl)) ?_
        refine lexQ rfl rfl rfl rfl (fun H hM => (yMin rfl rfl rfl)) ?_
        -- tail
        refine lexNil0 rfl (fun hM => ?_)
        refine seqQ rfl rfl (yIdx1 rfl Try.underlying22 Try.sizeOf3 rfl rfl rfl (by omega)) ?_
        -- e slot None: store T3 t57 t56
        refine seqE0 rfl rfl (stepStoreOwn st.own rfl Try.sizeOf3 rfl rfl rfl rfl (by omega) ?_)
        intro H10 hown10 hK10
        have st10 := st.store hown10 hK10
        refine seqNil ?_
        refine hF10 _ _ ?_; clear hF10
        refine wpSeq fun F11 hF11 => ?_
        refine wpRegion ?_
        refine seqQ rfl rfl (yLoadB st10.b5 rfl Try.underlying24 rfl Try.sizeOf24 rfl) ?_
        -- e slot None: store T24 t4 t58
        refine seqE0 rfl rfl (stepStoreB rfl (by kernel_rfl) rfl rfl rfl st10.b2 rfl ?_)
        intro H11 hB11 hK11
        refine seqQ rfl rfl (yAssign (v := .int _ _) rfl rfl) ?_
        refine seqNil ?_
        refine hF11 _ _ ?_; clear hF11
        -- ret
        refine wpRet (finR2 rfl (resC Try.underlying24 rfl (by kernel_rfl) rfl hB11) (resT (v := .int _ _) rfl) ?_)
        have hd := st10.done hK11
        rw [addZ_ok hv hX hY, addZ_idx hv hi hj]
        refine ⟨hd.1, _, rfl, ?_⟩
        have := ZO.of (N := z.N) hd.2
        unfold addL
        rw [hg]
        exact this

/-- A zone in work: its matrix grows. -/
structure RSt (H0 : Heap) (g2 g4 : Nat) (T : TypeId) (N : Int) (v : Value) (L : List Int) (H : Heap) : Prop where
  ext : Ext H0 H
  own : Own eInt 3 H H0.size v L
  b2 : Blk H g2 (znC zn0 none 0) T
  b4 : Blk H g4 [.int .i64 N, v] T
  ne : ∀ g, v.ownBlock = some g → g ≠ g2 ∧ g ≠ g4
  q2 : H0.size ≤ g2
  q4 : H0.size ≤ g4
  lt : g2 < g4
set_option maxRecDepth 100000 in
theorem fulL_get {m i j : Nat} (hi : i < m) (hj : j < m) : (fulL m)[i * m + j]'(by rw [fulL_len]; exact idx_lt hi hj) = ful i j := by
  have := fulL_mt hi hj
  unfold mt at this
  rw [List.getD_eq_getElem?_getD, List.getElem?_eq_getElem (by rw [fulL_len]; exact idx_lt hi hj), Option.getD_some] at this
  exact this
set_option maxRecDepth 100000 in
theorem rNew_c (n : Int) (H : Heap) (h64 : In64 n) : CallsH Try.prog 26 [.int .i64 n] H fun v H' => Ext H H' ∧ ∃ u, v = .tuple #[u, .int .i64 (newF n).2] ∧ ZO H' H.size u (newF n).1 := by
  unfold In64 at h64
  refine callsH_of Try.func26 rfl Try.ntmps26 (Nat.le_of_ble_eq_true rfl) ?_
  refine wpSeq fun F1 hF1 => ?_
  refine wpRegion ?_
  refine seqN rfl rfl (nAlloc rfl Try.zeroValue24 rfl) (fun g2 H2 hx2 hB2 hg2 hl2 => ?_)
  refine seqQ rfl rfl (yAssign (v := .int _ _) rfl rfl) ?_
  refine seqNil ?_
  refine hF1 _ _ ?_; clear hF1
  refine wpSeq fun F2 hF2 => ?_
  refine wpSeq fun F3 hF3 => ?_
  refine wpRegion ?_
  refine seqQ rfl rfl (yMove (v := .int _ _) rfl rfl) ?_
  refine seqQ rfl rfl (yLss rfl rfl rfl) ?_
  -- guard t9
  refine seqMeet 6 [9, 10, 11, 12] 12 (decide (n < 0 ∨ 24 < n)) (fun hm4 => ?_) (fun J4 => ?_)
  · skip
    first | refine seqG rfl rfl rfl rfl (fun h9 => ?_) (fun h9 => ?_) | refine seqGB rfl rfl rfl rfl (fun h9 => ?_) (fun h9 => ?_)
    · skip
      refine seqU rfl rfl ?_
      refine seqU rfl rfl ?_
      refine seqQ rfl rfl (yPickT (v := .bool _) rfl rfl rfl) ?_
      exact hm4 _ (by repeat (first | (with_reducible exact Agree.refl _ _) | refine Agree.upd ?_ rfl | refine Agree.over ?_ rfl)) (by show Value.bool _ = Value.bool _; congr 1; grind)
    · skip
      refine seqQ rfl rfl (yMove (v := .int _ _) rfl rfl) ?_
      refine seqQ rfl rfl (yGtr rfl rfl rfl) ?_
      refine seqQ rfl rfl (yPickF (v := .bool _) rfl rfl rfl) ?_
      exact hm4 _ (by repeat (first | (with_reducible exact Agree.refl _ _) | refine Agree.upd ?_ rfl | refine Agree.over ?_ rfl)) (by show Value.bool _ = Value.bool _; congr 1; grind)
  refine seqNil ?_
  refine hF3 _ _ ?_; clear hF3
  -- if t12
  refine wpIf rfl (fun h1 => ?_) (fun h1 => ?_)
  · skip
    refine wpSeq fun F5 hF5 => ?_
    refine wpRegion ?_
    refine seqQ rfl rfl (yBuild (pl := [(0, 1), (1, 1)]) (vs := []) rfl Try.underlying24 Try.zeroValue24 rfl (by unfold Places; kernel_rfl) rfl rfl) ?_
    -- e slot None: store T24 t2 t13
    refine seqE0 rfl rfl (stepStoreB rfl (by kernel_rfl) rfl rfl rfl hB2 rfl ?_)
    intro H3 hB3 hK3
    refine seqQ rfl rfl (yAssign (v := .int _ _) rfl rfl) ?_
    refine seqNil ?_
    refine hF5 _ _ ?_; clear hF5
    -- ret
    refine wpRet (finR2 rfl (resC Try.underlying24 rfl (by kernel_rfl) rfl hB3) (resT (v := .int _ _) rfl) ?_)
    rw [show newF n = (zn0, 2) from if_pos h1]
    exact ⟨hx2.mine hK3 (by simp; omega), _, rfl, ZO.zero _ _⟩
  · skip
    have e1 : newF n = (newZ n, 0) := if_neg h1
    obtain ⟨m, hm⟩ : ∃ m : Nat, n = (m : Int) - 1 := ⟨(n + 1).toNat, by omega⟩
    subst hm
    have h2 : m ≤ 25 := by omega
    have h0 : 1 ≤ m := by omega
    have e0 : newZ ((m : Int) - 1) = ⟨(m : Int) - 1, fulL m⟩ := by unfold newZ; rw [Int.sub_add_cancel, Int.toNat_natCast]
    rw [e0] at e1
    refine wpSkip ?_
    refine hF2 _ _ ?_; clear hF2
    refine wpSeq fun F6 hF6 => ?_
    refine wpRegion ?_
    refine seqQ rfl rfl (yMove (v := .int _ _) rfl rfl) ?_
    refine seqQ rfl rfl (yBuild (pl := [(0, 1), (1, 1)]) (vs := [(0, .int _ _)]) rfl Try.underlying24 Try.zeroValue24 rfl (by unfold Places; kernel_rfl) rfl rfl) ?_
    refine seqN rfl rfl (nAlloc rfl Try.zeroValue24 rfl) (fun g4 H4 hx4 hB4 hg4 hl4 => ?_)
    -- e slot None: store T24 t4 t15
    refine seqE0 rfl rfl (stepStoreB rfl (by kernel_rfl) rfl rfl rfl hB4 rfl ?_)
    intro H5 hB5 hK5
    have st : RSt H g2 g4 24 ((m : Int) - 1) (.slice none 0 0) [] H5 :=
      ⟨(hx2.trans hx4).mine hK5 (by have := hx2.size; simp; omega), Own.nil _ _, (hB2.ext hx4).keep hK5 (by have := hB2.lt; simp; omega), hB5, (fun g e => by cases e), hg2, by have := hx2.size; omega, by have := hB2.lt; omega⟩
    clear hx2 hx4 hB2 hB4 hB5 hK5
    refine seqNil ?_
    refine hF6 _ _ ?_; clear hF6
    refine wpSeq fun F7 hF7 => ?_
    refine wpSeq fun F8 hF8 => ?_
    refine wpRegion ?_
    refine seqQ rfl rfl (yAssign (v := .int _ _) rfl rfl) ?_
    refine seqNil ?_
    refine hF8 _ _ ?_; clear hF8
    -- loop
    refine wpBlock ?_
    refine wpLoopS [5, 6, 16, 17, 18, 19, 20, 21, 22, 23, 24, 25, 26, 27, 28, 29, 30, 31, 32, 33] (fun x : Nat × Value => [(5, .int .i64 x.1)]) (fun x H' => x.1 ≤ m ∧ RSt H g2 g4 24 ((m : Int) - 1) x.2 ((fulL m).take (x.1 * m)) H') (fun x => m - x.1) (0, .slice none 0 0) ⟨rfl, trivial⟩ ⟨Nat.zero_le _, by simpa using st⟩ ?_
    rintro ⟨i, v⟩ J Hi ⟨hi, st1⟩
    dsimp only at hi st1
    clear st
    refine wpSeq fun F9 hF9 => ?_
    refine wpSeq fun F10 hF10 => ?_
    refine wpRegion ?_
    refine seqQ rfl rfl (yMove (v := .int _ _) rfl rfl) ?_
    refine seqQ rfl rfl (yMove (v := .int _ _) rfl rfl) ?_
    refine seqQ rfl rfl (yLeq rfl rfl rfl) ?_
    refine seqNil ?_
    refine hF10 _ _ ?_; clear hF10
    -- if t18
    refine wpIf rfl (fun hlt => ?_) (fun hlt => ?_)
    · skip
      have hi : i < m := by dsimp only at hlt; omega
      refine wpSkip ?_
      refine hF9 _ _ ?_; clear hF9
      refine wpSeq fun F11 hF11 => ?_
      refine wpBlock ?_
      refine wpSeq fun F12 hF12 => ?_
      refine wpRegion ?_
      refine seqQ rfl rfl (yAssign (v := .int _ _) rfl rfl) ?_
      refine seqNil ?_
      refine hF12 _ _ ?_; clear hF12
      -- loop
      refine wpBlock ?_
      refine wpLoopS [6, 21, 22, 23, 24, 25, 26, 27, 28, 29, 30, 31, 32, 33] (fun x : Nat × Value => [(6, .int .i64 x.1)]) (fun x H' => x.1 ≤ m ∧ RSt H g2 g4 24 ((m : Int) - 1) x.2 ((fulL m).take (i * m + x.1)) H') (fun x => m - x.1) (0, v) ⟨rfl, trivial⟩ ⟨Nat.zero_le _, st1⟩ ?_
      rintro ⟨j, v⟩ K Hj ⟨hj, st2⟩
      dsimp only at hj st2
      clear st1
      refine wpSeq fun F13 hF13 => ?_
      refine wpSeq fun F14 hF14 => ?_
      refine wpRegion ?_
      refine seqQ rfl rfl (yMove (v := .int _ _) rfl rfl) ?_
      refine seqQ rfl rfl (yMove (v := .int _ _) rfl rfl) ?_
      refine seqQ rfl rfl (yLeq rfl rfl rfl) ?_
      refine seqNil ?_
      refine hF14 _ _ ?_; clear hF14
      -- if t23
      refine wpIf rfl (fun hlt2 => ?_) (fun hlt2 => ?_)
      · skip
        have hj : j < m := by dsimp only at hlt2; omega
        have hix := idx_lt hi hj
        have hmm := mul25 h2 h2
        have hlen : ((fulL m).take (i * m + j)).length = i * m + j := by rw [List.length_take, fulL_len]; omega
        have hbl := st2.b4.lt
        refine wpSkip ?_
        refine hF13 _ _ ?_; clear hF13
        refine wpSeq fun F15 hF15 => ?_
        refine wpBlock ?_
        refine wpRegionD Try_mixed [.q, .q, .q, .q, .e, .n, .e, .q, .e] 6 [0, 1, 0, 0, 12, 28, 63, 127, 255] [] (by kernel_rfl) _ rfl [0, 1, 2, 3, 4, 5] rfl (by simp) ?_
        refine lexQ rfl rfl rfl rfl (fun H hM => (yFieldAddr rfl Try.underlying24 rfl Try.sizeOf22 rfl rfl)) ?_
        refine lexQ rfl rfl rfl rfl (fun H hM => (yLoad rfl Try.underlying22 rfl rfl (hM.ext.cell (st2.b4.cell rfl)))) ?_
        refine lexQ rfl rfl rfl rfl (fun H hM => (yMove (v := .int _ _) rfl rfl)) ?_
        refine lexQ rfl rfl rfl rfl (fun H hM => (yMove (v := .int _ _) rfl rfl)) ?_
        -- e slot 30: call F43<farandole/farandoleref13.full> t28 t29
        refine lexX rfl rfl rfl rfl (by simp) (fun H30 hX30 hM30 hN30 => stepCall rfl Try.call43 rfl ?_)
        refine (rfull_c i j _).mono ?_
        rintro u _ ⟨rfl, e⟩
        obtain rfl := e.symm
        clear e
        refine ⟨Ext.refl _, fun _ => ?_⟩
        refine lexNB rfl rfl rfl rfl (nBuildSlice (vs := [.int _ _]) rfl Try.underlying22 Try.sizeOf3 Try.zeroValue3 rfl rfl rfl rfl) (fun g31 hg31 hne31 => ?_)
        -- tail
        obtain ⟨A, cap, rfl, -⟩ := st2.own.form
        refine lexNil (fun Hf hXf hMf hNf => ?_)
        have hX := hX30.trans hXf
        have hB31 := NF.blk 5 hNf (.head _)
        -- e slot 32: builtin append t27 t31 : [22, 22]
        refine seqE rfl rfl (stepApp (c := eInt) (st2.own.ext hX) rfl Try.underlying22 elem_eInt rfl (by omega) rfl rfl rfl (Blk.rd (c := eInt) (l := [ful i j]) hB31) (by rw [hlen]; simp; omega) (by have := st2.ext.size; have := hX.size; omega) ?_)
        intro v' H6 hown6 hgrew6
        obtain ⟨A2, cap2, rfl, -⟩ := hown6.form
        have b4 : Blk H6 g4 _ _ := (st2.b4.ext hX).keep hgrew6.1 (by rw [Option.mem_toList]; exact fun hb => (st2.ne _ hb).2 rfl)
        have b2 := (st2.b2.ext hX).keep hgrew6.1 (by rw [Option.mem_toList]; exact fun hb => (st2.ne _ hb).1 rfl)
        have ne6 : ∀ g, (Value.slice A2 ((fulL m).take (i * m + j) ++ [ful i j]).length cap2).ownBlock = some g → g ≠ g2 ∧ g ≠ g4 := by
          intro g e
          rcases hgrew6.2 g e with h | h
          · exact st2.ne g h
          · have := hX.size; have := st2.lt; omega
        refine seqQ rfl rfl (yFieldAddr rfl Try.underlying24 rfl Try.sizeOf22 rfl rfl) ?_
        -- e slot None: store T22 t33 t32
        refine seqE0 rfl rfl (stepStore rfl Try.sizeOf22 rfl rfl rfl rfl b4 (Nat.le_of_ble_eq_true rfl) ?_)
        intro H7 hB7 hK7
        have hx6 : Ext H H6 := hgrew6.ext (st2.ext.trans hX) (fun g e => (st2.own.lt g e).1)
        have q2 := st2.q2
        have q4 := st2.q4
        have lt := st2.lt
        have st3 : RSt H g2 g4 24 ((m : Int) - 1) (.slice A2 ((fulL m).take (i * m + j) ++ [ful i j]).length cap2) ((fulL m).take (i * m + (j + 1))) H7 := by
          refine ⟨hx6.mine hK7 (by simpa using q4), ?_, b2.keep hK7 (by simp; omega), hB7, ne6, q2, q4, lt⟩
          have e : (fulL m).take (i * m + (j + 1)) = (fulL m).take (i * m + j) ++ [ful i j] := by
            rw [← Nat.add_assoc, List.take_succ_eq_append_getElem (by rw [fulL_len]; exact hix), fulL_get hi hj]
          rw [e]
          exact hown6.keep hK7 (fun b hb => by have := (ne6 b hb).2; simpa using this)
        refine seqNil ?_
        refine hF15 _ _ ?_; clear hF15
        refine wpRegion ?_
        refine seqQ rfl rfl (yMove (v := .int _ _) rfl rfl) ?_
        refine seqQ rfl rfl (yAdd rfl rfl rfl (by unfold In64; omega)) ?_
        refine seqQ rfl rfl (yAssign (v := .int _ _) rfl rfl) ?_
        refine seqNil ?_
        -- end loop
        exact loopEnd (j + 1, _) (by repeat (first | (with_reducible exact Agree.refl _ _) | refine Agree.upd ?_ rfl | refine Agree.over ?_ rfl)) (by dsimp only; omega) ⟨rfl, trivial⟩ ⟨hj, st3⟩
      · skip
        obtain rfl : j = m := by dsimp only at hlt2; omega
        refine wpExit ?_
        refine hF11 _ _ ?_; clear hF11
        refine wpRegion ?_
        refine seqQ rfl rfl (yMove (v := .int _ _) rfl rfl) ?_
        refine seqQ rfl rfl (yAdd rfl rfl rfl (by unfold In64; omega)) ?_
        refine seqQ rfl rfl (yAssign (v := .int _ _) rfl rfl) ?_
        refine seqNil ?_
        -- end loop
        have e : i * j + j = (i + 1) * j := by rw [Nat.add_mul, Nat.one_mul]
        rw [e] at st2
        exact loopEnd (i + 1, _) (by repeat (first | (with_reducible exact Agree.refl _ _) | refine Agree.upd ?_ rfl | refine Agree.over ?_ rfl)) (by dsimp only; omega) ⟨rfl, trivial⟩ ⟨hi, st2⟩
    · skip
      obtain rfl : i = m := by dsimp only at hlt; omega
      rw [List.take_of_length_le (by rw [fulL_len]; exact Nat.le_refl _)] at st1
      obtain ⟨A, cap, rfl, -⟩ := st1.own.form
      refine wpExit ?_
      refine hF7 _ _ ?_; clear hF7
      refine wpSeq fun F16 hF16 => ?_
      refine wpRegion ?_
      refine seqQ rfl rfl (yLoadB st1.b4 rfl Try.underlying24 rfl Try.sizeOf24 rfl) ?_
      -- e slot None: store T24 t2 t34
      refine seqE0 rfl rfl (stepStoreB rfl (by kernel_rfl) rfl rfl rfl st1.b2 rfl ?_)
      intro H7 hB7 hK7
      refine seqQ rfl rfl (yAssign (v := .int _ _) rfl rfl) ?_
      refine seqNil ?_
      refine hF16 _ _ ?_; clear hF16
      -- ret
      refine wpRet (finR2 rfl (resC Try.underlying24 rfl (by kernel_rfl) rfl hB7) (resT (v := .int _ _) rfl) ?_)
      have q2 := st1.q2
      rw [e1]
      refine ⟨st1.ext.mine hK7 (by simpa using q2), _, rfl, ZO.of (st1.own.keep hK7 (fun b hb => by have := (st1.ne b hb).1; simpa using this))⟩
set_option maxRecDepth 100000 in
theorem rEmpty_c (n : Int) (H : Heap) (h0 : 0 ≤ n) (h1 : n ≤ 24) : CallsH Try.prog 53 [.int .i64 n] H fun v H' => Ext H H' ∧ ZO H' H.size v (nothZ n) := by
  have hpos : 0 < (fulL (n + 1).toNat).length := by rw [fulL_len]; exact Nat.mul_pos (by omega) (by omega)
  refine callsH_of Try.func53 rfl Try.ntmps53 (Nat.le_of_ble_eq_true rfl) ?_
  refine wpSeq fun F1 hF1 => ?_
  refine wpRegion ?_
  refine seqN rfl rfl (nAlloc rfl Try.zeroValue24 rfl) (fun g2 H2 hx2 hB2 hg2 hl2 => ?_)
  refine seqNil ?_
  refine hF1 _ _ ?_; clear hF1
  refine wpSeq fun F2 hF2 => ?_
  refine wpRegion ?_
  refine seqQ rfl rfl (yMove (v := .int _ _) rfl rfl) ?_
  -- e slot 7: call F26<farandole/farandoleref13.New> t6
  refine seqE rfl rfl (stepCall rfl Try.call26 rfl ?_)
  refine (rNew_c n _ (by unfold In64; omega)).mono ?_
  rw [show newF n = (newZ n, 0) from if_neg (by omega)]
  rintro v H1 ⟨hx1, u, rfl, A, ca, rfl, ho⟩
  change Own eInt _ H1 _ (.slice A (fulL (n + 1).toNat).length ca) (fulL (n + 1).toNat) at ho
  obtain ⟨A', ca', e', -, hrd, hb⟩ := ho.form
  injection e' with e1 e2 e3
  subst e1; subst e3
  obtain ⟨p, rfl, hp⟩ := hrd.at1 hpos
  obtain ⟨hb1, hb2, hb3⟩ := hb p rfl
  refine seqQ rfl rfl (yMove (v := .tuple _) rfl rfl) ?_
  refine seqQ rfl rfl (yExtract (v := .agg _) rfl rfl rfl) ?_
  refine seqQ rfl rfl (yExtract (v := .int _ _) rfl rfl rfl) ?_
  refine seqN rfl rfl (nAlloc rfl Try.zeroValue24 rfl) (fun g3 H3 hx3 hB3 hg3 hl3 => ?_)
  -- e slot None: store T24 t3 t8
  refine seqE0 rfl rfl (stepStoreB rfl (by kernel_rfl) rfl rfl rfl hB3 rfl ?_)
  intro H4 hB4 hK4
  have l2 := hB2.lt
  have s2 := hx2.size
  have st : ZSt H g2 g3 24 n p (fulL (n + 1).toNat).length ca (fulL (n + 1).toNat) H4 :=
    ⟨((hx2.trans hx1).trans hx3).mine hK4 (by have := hx1.size; simp; omega), ((ho.mono s2).ext hx3).keep hK4 (by intro b e; obtain rfl := Option.some.inj e; simp; omega), ((hB2.ext hx1).ext hx3).keep hK4 (by have := hx1.size; simp; omega), hB4, by omega, by omega, by omega, by omega⟩
  refine seqQ rfl rfl (yAssign (v := .int _ _) rfl rfl) ?_
  refine seqNil ?_
  refine hF2 _ _ ?_; clear hF2
  refine wpSeq fun F3 hF3 => ?_
  refine wpRegion ?_
  refine seqQ rfl rfl (yFieldAddr rfl Try.underlying24 rfl Try.sizeOf22 rfl rfl) ?_
  refine seqQ rfl rfl (yLoad rfl Try.underlying22 rfl rfl (st.b5.cell rfl)) ?_
  refine seqQ rfl rfl (yIdx1 rfl Try.underlying22 Try.sizeOf3 rfl rfl (show (0 : Int) = ((0 : Nat) : Int) from rfl) hpos) ?_
  -- e slot None: store T3 t12 [i:i64:-20001]
  refine seqE0 rfl rfl (stepStoreOwn st.own rfl Try.sizeOf3 rfl rfl rfl rfl hpos ?_)
  intro H5 hown5 hK5
  have st5 := st.store hown5 hK5
  refine seqNil ?_
  refine hF3 _ _ ?_; clear hF3
  refine wpSeq fun F4 hF4 => ?_
  refine wpRegion ?_
  refine seqQ rfl rfl (yLoadB st5.b5 rfl Try.underlying24 rfl Try.sizeOf24 rfl) ?_
  -- e slot None: store T24 t2 t13
  refine seqE0 rfl rfl (stepStoreB rfl (by kernel_rfl) rfl rfl rfl st5.b2 rfl ?_)
  intro H6 hB6 hK6
  refine seqNil ?_
  refine hF4 _ _ ?_; clear hF4
  -- ret
  refine wpRet (finR1 rfl (resC Try.underlying24 rfl (by kernel_rfl) rfl hB6) ?_)
  have hd := st5.done hK6
  exact ⟨hd.1, ZO.of (N := n) hd.2⟩
end Go.Proofs.Ytjkbkmbblidipaa
