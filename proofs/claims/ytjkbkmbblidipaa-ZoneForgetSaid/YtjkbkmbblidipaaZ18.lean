/- Zones: Widen (both). -/
import Derived.Test.YtjkbkmbblidipaaZ17
namespace Go.Proofs.Ytjkbkmbblidipaa
open Go.RowKit

def widL (n : Nat) (y a : List Int) : List Int := (List.range (n * n)).map fun p => if y.getD p 0 ≤ a.getD p 0 then a.getD p 0 else (fulL n).getD p 0
set_option maxRecDepth 100000 in
theorem widL_len (n : Nat) (y a : List Int) : (widL n y a).length = n * n := by simp [widL]
set_option maxRecDepth 100000 in
theorem widL_get {n : Nat} {y a : List Int} {k : Nat} (h : k < (widL n y a).length) : (widL n y a)[k] = if y.getD k 0 ≤ a.getD k 0 then a.getD k 0 else (fulL n).getD k 0 := by simp [widL]
set_option maxRecDepth 100000 in
theorem widL_mt {n : Nat} {y a : List Int} {i j : Nat} (hi : i < n) (hj : j < n) : mt n (widL n y a) i j = if mt n y i j ≤ mt n a i j then mt n a i j else ful i j := by
  have hlt := idx_lt hi hj
  have h1 := fulL_mt hi hj
  unfold mt at *
  rw [List.getD_eq_getElem?_getD, List.getElem?_eq_getElem (by rw [widL_len]; exact hlt), Option.getD_some, widL_get, h1]
def widZ (a b : Zn) : Zn × Int := if Both a b then (if (closeZ b).2 = true then (if (closeZ a).2 = true then (⟨a.N, widL (dm a) (closeZ b).1.b a.b⟩, 0) else ((closeZ b).1, 0)) else (a, 0)) else (zn0, 1)
set_option maxRecDepth 100000 in
theorem widZ_no {a b : Zn} (h : ¬ Both a b) : widZ a b = (zn0, 1) := if_neg h
set_option maxRecDepth 100000 in
theorem widZ_x0 {a b : Zn} (h : Both a b) (eb : closeZ b = (zn0, false)) : widZ a b = (a, 0) := by unfold widZ; rw [if_pos h, eb]; rfl
set_option maxRecDepth 100000 in
theorem widZ_01 {a b : Zn} {L : List Int} (h : Both a b) (ea : closeZ a = (zn0, false)) (eb : closeZ b = (⟨b.N, L⟩, true)) : widZ a b = (⟨b.N, L⟩, 0) := by unfold widZ; rw [if_pos h, ea, eb]; rfl
set_option maxRecDepth 100000 in
theorem widZ_11 {a b : Zn} {L L' : List Int} (h : Both a b) (ea : closeZ a = (⟨a.N, L⟩, true)) (eb : closeZ b = (⟨b.N, L'⟩, true)) : widZ a b = (⟨a.N, widL (dm a) L' a.b⟩, 0) := by unfold widZ; rw [if_pos h, ea, eb]; rfl
set_option maxRecDepth 100000 in
theorem Side.mk' {g8 : Nat} {T : TypeId} {p : Addr} {cs : List Value} {A' : Option Addr} {L' : List Int} {Hb Hs : Heap} (hB : Blk Hs g8 cs T) (hr : Rd eInt Hb A' L') (hx : Ext Hb Hs) (hp : Hb.size ≤ p.block) (h8 : g8 < Hb.size) : Side g8 T p cs A' L' Hs :=
  ⟨hB, RdM.old hr hx (by simp; omega), by omega⟩
set_option maxRecDepth 100000 in
theorem getD_of {l : List Int} {k : Nat} (h : k < l.length) : l.getD k 0 = l[k] := by rw [List.getD_eq_getElem?_getD, List.getElem?_eq_getElem h, Option.getD_some]
set_option maxRecDepth 100000 in
theorem widen_c (a b : Zn) (A B : Option Addr) (ca cb : Nat) (H : Heap) (hA : Rd eInt H A a.b) (hB : Rd eInt H B b.b) (h8 : a.N ≤ 8) :
    CallsH Try.prog 33 [.agg (znC a A ca).toArray, .agg (znC b B cb).toArray] H fun v H' => Ext H H' ∧ ∃ u, v = .tuple #[u, .int .i64 (widZ a b).2] ∧ ZO H' H.size u (widZ a b).1 := by
  refine callsH_of Try.func33 rfl Try.ntmps33 (Nat.le_of_ble_eq_true rfl) ?_
  refine wpSeq fun F1 hF1 => ?_
  refine wpRegion ?_
  refine seqN rfl rfl (nBoxA rfl rfl) (fun g2 H2 hx2 hB2 hg2 hl2 => ?_)
  refine seqN rfl rfl (nBoxA rfl rfl) (fun g3 H3 hx3 hB3 hg3 hl3 => ?_)
  refine seqN rfl rfl (nAlloc rfl Try.zeroValue27 rfl) (fun g4 H4 hx4 hB4 hg4 hl4 => ?_)
  refine seqQ rfl rfl (yAssign (v := .int _ _) rfl rfl) ?_
  refine seqNil ?_
  refine hF1 _ _ ?_; clear hF1
  refine wpSeq fun F2 hF2 => ?_
  refine wpSeq fun F3 hF3 => ?_
  refine wpRegion ?_
  refine seqQ rfl rfl (yLoadB ((hB2.ext hx3).ext hx4) rfl Try.underlying27 rfl Try.sizeOf27 rfl) ?_
  -- e slot 13: call F27<farandole/zone.Valid> t12
  refine seqE rfl rfl (stepCall rfl Try.call27 rfl ?_)
  refine (zvalid_c a A ca _ (((hA.ext hx2).ext hx3).ext hx4)).mono ?_
  rintro v H5 ⟨rfl, hx5⟩
  have hE := ((hx2.trans hx3).trans hx4).trans hx5
  have q4 : H.size ≤ g4 := by have := hx2.size; have := hx3.size; omega
  replace hB2 := ((hB2.ext hx3).ext hx4).ext hx5
  replace hB3 := (hB3.ext hx4).ext hx5
  replace hB4 := hB4.ext hx5
  clear hx2 hx3 hx4 hx5
  refine seqQ rfl rfl (yNot rfl rfl) ?_
  -- guard t15
  refine seqGB rfl rfl rfl rfl (fun hv => ?_) (fun hv => ?_)
  · skip
    have hv : ¬ ValZ a := by simpa using hv
    refine seqU rfl rfl ?_
    refine seqU rfl rfl ?_
    refine seqU rfl rfl ?_
    refine seqQ rfl rfl (yPickT (v := .bool _) rfl rfl rfl) ?_
    refine seqQ rfl rfl (yMove (v := .bool true) rfl rfl) ?_
    refine seqU rfl rfl ?_
    refine seqU rfl rfl ?_
    refine seqU rfl rfl ?_
    refine seqU rfl rfl ?_
    refine seqU rfl rfl ?_
    refine seqQ rfl rfl (yPickT (v := .bool _) rfl rfl rfl) ?_
    refine seqNil ?_
    refine hF3 _ _ ?_; clear hF3
    -- if t26
    refine wpT rfl ?_
    refine wpSeq fun F4 hF4 => ?_
    refine wpRegion ?_
    refine seqQ rfl rfl (yBuild (pl := [(0, 1), (1, 1)]) (vs := []) rfl Try.underlying27 Try.zeroValue27 rfl (by unfold Places; kernel_rfl) rfl rfl) ?_
    -- e slot None: store T27 t4 t27
    refine seqE0 rfl rfl (stepStoreB rfl (by kernel_rfl) rfl rfl rfl hB4 rfl ?_)
    intro H6 hB6 hK6
    refine seqQ rfl rfl (yAssign (v := .int _ _) rfl rfl) ?_
    refine seqNil ?_
    refine hF4 _ _ ?_; clear hF4
    -- ret
    refine wpRet (finR2 rfl (resC Try.underlying27 rfl (by kernel_rfl) rfl hB6) (resT (v := .int _ _) rfl) ?_)
    rw [widZ_no (fun h => hv h.1)]
    exact ⟨hE.mine hK6 (by simp; omega), _, rfl, ZO.zero _ _⟩
  · skip
    have hv : ValZ a := by simpa using hv
    refine seqQ rfl rfl (yLoadB hB3 rfl Try.underlying27 rfl Try.sizeOf27 rfl) ?_
    -- e slot 17: call F27<farandole/zone.Valid> t16
    refine seqE rfl rfl (stepCall rfl Try.call27 rfl ?_)
    refine (zvalid_c b B cb _ (hB.ext hE)).mono ?_
    rintro v H5 ⟨rfl, hx5⟩
    replace hE := hE.trans hx5
    replace hB2 := hB2.ext hx5
    replace hB3 := hB3.ext hx5
    replace hB4 := hB4.ext hx5
    clear hx5
    refine seqQ rfl rfl (yNot rfl rfl) ?_
    refine seqQ rfl rfl (yPickF (v := .bool _) rfl rfl rfl) ?_
    -- guard t20
    refine seqGB rfl rfl rfl rfl (fun hw => ?_) (fun hw => ?_)
    · skip
      have hw : ¬ ValZ b := by simpa using hw
      refine seqU rfl rfl ?_
      refine seqU rfl rfl ?_
      refine seqU rfl rfl ?_
      refine seqU rfl rfl ?_
      refine seqU rfl rfl ?_
      refine seqQ rfl rfl (yPickT (v := .bool _) rfl rfl rfl) ?_
      refine seqNil ?_
      refine hF3 _ _ ?_; clear hF3
      -- if t26
      refine wpT rfl ?_
      refine wpSeq fun F5 hF5 => ?_
      refine wpRegion ?_
      refine seqQ rfl rfl (yBuild (pl := [(0, 1), (1, 1)]) (vs := []) rfl Try.underlying27 Try.zeroValue27 rfl (by unfold Places; kernel_rfl) rfl rfl) ?_
      -- e slot None: store T27 t4 t27
      refine seqE0 rfl rfl (stepStoreB rfl (by kernel_rfl) rfl rfl rfl hB4 rfl ?_)
      intro H6 hB6 hK6
      refine seqQ rfl rfl (yAssign (v := .int _ _) rfl rfl) ?_
      refine seqNil ?_
      refine hF5 _ _ ?_; clear hF5
      -- ret
      refine wpRet (finR2 rfl (resC Try.underlying27 rfl (by kernel_rfl) rfl hB6) (resT (v := .int _ _) rfl) ?_)
      rw [widZ_no (fun h => hw h.2.1)]
      exact ⟨hE.mine hK6 (by simp; omega), _, rfl, ZO.zero _ _⟩
    · skip
      have hw : ValZ b := by simpa using hw
      refine seqQ rfl rfl (yFieldAddr rfl Try.underlying27 rfl Try.sizeOf3 rfl rfl) ?_
      refine seqQ rfl rfl (yLoad rfl Try.underlying3 rfl rfl (hB2.cell rfl)) ?_
      refine seqQ rfl rfl (yFieldAddr rfl Try.underlying27 rfl Try.sizeOf3 rfl rfl) ?_
      refine seqQ rfl rfl (yLoad rfl Try.underlying3 rfl rfl (hB3.cell rfl)) ?_
      refine seqQ rfl rfl (yNeq rfl rfl rfl) ?_
      refine seqQ rfl rfl (yPickF (v := .bool _) rfl rfl rfl) ?_
      refine seqNil ?_
      refine hF3 _ _ ?_; clear hF3
      -- if t26
      refine wpCond rfl (fun hn => ?_) (fun hn => ?_)
      · skip
        have hn : ¬ a.N = b.N := by simpa using hn
        refine wpSeq fun F6 hF6 => ?_
        refine wpRegion ?_
        refine seqQ rfl rfl (yBuild (pl := [(0, 1), (1, 1)]) (vs := []) rfl Try.underlying27 Try.zeroValue27 rfl (by unfold Places; kernel_rfl) rfl rfl) ?_
        -- e slot None: store T27 t4 t27
        refine seqE0 rfl rfl (stepStoreB rfl (by kernel_rfl) rfl rfl rfl hB4 rfl ?_)
        intro H6 hB6 hK6
        refine seqQ rfl rfl (yAssign (v := .int _ _) rfl rfl) ?_
        refine seqNil ?_
        refine hF6 _ _ ?_; clear hF6
        -- ret
        refine wpRet (finR2 rfl (resC Try.underlying27 rfl (by kernel_rfl) rfl hB6) (resT (v := .int _ _) rfl) ?_)
        rw [widZ_no (fun h => hn h.2.2)]
        exact ⟨hE.mine hK6 (by simp; omega), _, rfl, ZO.zero _ _⟩
      · skip
        have hn : a.N = b.N := by simpa using hn
        have hb : Both a b := ⟨hv, hw, hn⟩
        have hda := hv.dim
        have hdb := hw.dim
        rw [← hb.dm] at hdb
        have sE := hE.size
        have l4 := hB4.lt
        have l2 := hB2.lt
        have hal : a.b.length ≤ 625 := by rw [hda.2.2.2]; exact mul25 hda.2.2.1 hda.2.2.1
        have ha0 : 0 < a.b.length := by rw [hda.2.2.2]; exact Nat.mul_pos hda.2.1 hda.2.1
        obtain ⟨⟨zc, ok⟩, hcz⟩ : ∃ r, closeZ a = r := ⟨_, rfl⟩
        refine wpSkip ?_
        refine hF2 _ _ ?_; clear hF2
        refine wpSeq fun F7 hF7 => ?_
        refine wpRegion ?_
        refine seqQ rfl rfl (yLoadB hB2 rfl Try.underlying27 rfl Try.sizeOf27 rfl) ?_
        -- e slot 30: call F14<farandole/zone.Close> t29
        refine seqE rfl rfl (stepCall rfl Try.call14 rfl ?_)
        have hc := close_c a A ca _ (hA.ext hE) h8
        rw [hcz] at hc
        dsimp only at hc
        refine hc.mono ?_
        rintro v Hc ⟨hxc, u, rfl, A', ca', rfl, ho⟩
        refine seqQ rfl rfl (yMove (v := .tuple _) rfl rfl) ?_
        refine seqQ rfl rfl (yExtract (v := .agg _) rfl rfl rfl) ?_
        refine seqQ rfl rfl (yExtract (v := .bool _) rfl rfl rfl) ?_
        refine seqN rfl rfl (nAlloc rfl Try.zeroValue27 rfl) (fun g6 H6 hx6 hB6 hg6 hl6 => ?_)
        -- e slot None: store T27 t6 t31
        refine seqE0 rfl rfl (stepStoreB rfl (by kernel_rfl) rfl rfl rfl hB6 rfl ?_)
        intro H7 hB7 hK7
        have x7 := afterStore hxc hx6 hg6 hK7
        replace hE := hE.trans x7
        replace hB2 := hB2.ext x7
        replace hB3 := hB3.ext x7
        replace hB4 := hB4.ext x7
        have l47 := hB4.lt
        clear hxc hx6 hK7 x7 ho hc hB6 hB7
        refine seqQ rfl rfl (yAssign (v := .bool _) rfl rfl) ?_
        refine seqNil ?_
        refine hF7 _ _ ?_; clear hF7
        refine wpSeq fun F8 hF8 => ?_
        refine wpRegion ?_
        refine seqQ rfl rfl (yLoadB hB3 rfl Try.underlying27 rfl Try.sizeOf27 rfl) ?_
        -- e slot 35: call F14<farandole/zone.Close> t34
        refine seqE rfl rfl (stepCall rfl Try.call14 rfl ?_)
        have hc := close_c b B cb _ (hB.ext hE) (by omega)
        rcases closeZ_cases b with ⟨e', _⟩ | ⟨L', e', -, hL'⟩
        · skip
          rw [e'] at hc
          refine hc.mono ?_
          rintro v Hd ⟨hxd, u, rfl, A2, ca2, rfl, ho2⟩
          refine seqQ rfl rfl (yMove (v := .tuple _) rfl rfl) ?_
          refine seqQ rfl rfl (yExtract (v := .agg _) rfl rfl rfl) ?_
          refine seqQ rfl rfl (yExtract (v := .bool _) rfl rfl rfl) ?_
          refine seqN rfl rfl (nAlloc rfl Try.zeroValue27 rfl) (fun g8 H8 hx8 hB8 hg8 hl8 => ?_)
          -- e slot None: store T27 t8 t36
          refine seqE0 rfl rfl (stepStoreB rfl (by kernel_rfl) rfl rfl rfl hB8 rfl ?_)
          intro H9 hB9 hK9
          have x9 := afterStore hxd hx8 hg8 hK9
          replace hE := hE.trans x9
          replace hB2 := hB2.ext x9
          replace hB4 := hB4.ext x9
          clear hxd hx8 hK9 x9 ho2 hc hB8 hB9
          have sE2 := hE.size
          have l42 := hB4.lt
          refine seqQ rfl rfl (yAssign (v := .bool _) rfl rfl) ?_
          refine seqNil ?_
          refine hF8 _ _ ?_; clear hF8
          refine wpSeq fun F9 hF9 => ?_
          refine wpBlock ?_
          refine wpSeq fun F10 hF10 => ?_
          refine wpRegion ?_
          refine seqQ rfl rfl (yMove (v := .bool _) rfl rfl) ?_
          refine seqQ rfl rfl (yNot rfl rfl) ?_
          refine seqQ rfl rfl (yAssign (v := .bool _) rfl rfl) ?_
          refine seqNil ?_
          refine hF10 _ _ ?_; clear hF10
          -- if t38
          refine wpT rfl ?_
          refine wpSeq fun F11 hF11 => ?_
          refine wpRegionD Try_mixed [.q, .q, .q, .q, .e, .q, .e, .q] 5 [0, 1, 0, 4, 12, 31, 63, 127] [] (by kernel_rfl) _ rfl [0, 1, 2, 3, 4] rfl (by simp) ?_
          refine lexQ rfl rfl rfl rfl (fun H hM => (yFieldAddr rfl Try.underlying27 rfl Try.sizeOf3 rfl rfl)) ?_
          refine lexQ rfl rfl rfl rfl (fun H hM => (yLoad rfl Try.underlying3 rfl rfl (hM.ext.cell (hB2.cell rfl)))) ?_
          refine lexQ rfl rfl rfl rfl (fun H hM => (yFieldAddr rfl Try.underlying27 rfl Try.sizeOf22 rfl rfl)) ?_
          refine lexQ rfl rfl rfl rfl (fun H hM => (yLoad rfl Try.underlying22 rfl rfl (hM.ext.cell (hB2.cell rfl)))) ?_
          -- e slot 45: call F41<slices.Clone[[]int,int]> t44
          refine lexX0 rfl rfl rfl rfl rfl (by simp) (fun hM45 => stepCall rfl Try.call41 rfl ?_)
          refine (cloneI_c A ca a.b _ (hA.ext hE) (by omega)).mono ?_
          rintro v He ⟨hoe, hxe⟩
          refine ⟨hxe, fun _ => ?_⟩
          obtain ⟨A5, c5, rfl, -⟩ := hoe.form
          -- tail
          refine lexNil0 rfl (fun hM => ?_)
          refine seqQ rfl rfl (yBuild (pl := [(0, 1), (1, 1)]) (vs := [(0, .int _ _), (1, .slice _ _ _)]) rfl Try.underlying27 Try.zeroValue27 rfl (by unfold Places; kernel_rfl) rfl rfl) ?_
          -- e slot None: store T27 t4 t46
          refine seqE0 rfl rfl (stepStoreB rfl (by kernel_rfl) rfl rfl rfl (hB4.ext hxe) rfl ?_)
          intro Hm hBm hKm
          refine seqQ rfl rfl (yAssign (v := .int _ _) rfl rfl) ?_
          refine seqNil ?_
          refine hF11 _ _ ?_; clear hF11
          -- ret
          refine wpRet (finR2 rfl (resC Try.underlying27 rfl (by kernel_rfl) rfl hBm) (resT (v := .int _ _) rfl) ?_)
          rw [widZ_x0 hb e']
          refine ⟨(hE.trans hxe).mine hKm (by simp; omega), _, rfl, ?_⟩
          exact (ZO.keep ⟨A5, c5, rfl, hoe⟩ hKm l42).fresh sE2
        · skip
          rw [e'] at hc
          refine hc.mono ?_
          rintro v Hd ⟨hxd, u, rfl, A2, ca2, rfl, ho2⟩
          have s8 := hE.size
          refine seqQ rfl rfl (yMove (v := .tuple _) rfl rfl) ?_
          refine seqQ rfl rfl (yExtract (v := .agg _) rfl rfl rfl) ?_
          refine seqQ rfl rfl (yExtract (v := .bool _) rfl rfl rfl) ?_
          refine seqN rfl rfl (nAlloc rfl Try.zeroValue27 rfl) (fun g8 H8 hx8 hB8 hg8 hl8 => ?_)
          -- e slot None: store T27 t8 t36
          refine seqE0 rfl rfl (stepStoreB rfl (by kernel_rfl) rfl rfl rfl hB8 rfl ?_)
          intro H9 hB9 hK9
          have x9 := afterStore hxd hx8 hg8 hK9
          have ho9 := ownStore ho2 hx8 hg8 hK9
          have sxd := hxd.size
          replace hE := hE.trans x9
          replace hB2 := hB2.ext x9
          replace hB4 := hB4.ext x9
          clear hxd hx8 hK9 x9 ho2 hc hB8
          have sE9 := hE.size
          have l9 := hB9.lt
          have l8 := hB4.lt
          have hll' := hL'.len
          rw [← hb.dm] at hll'
          cases ok
          · skip
            have e : closeZ a = (zn0, false) := by
              rcases closeZ_cases a with ⟨e, _⟩ | ⟨L, e, _⟩
              · exact e
              · rw [e] at hcz; exact absurd (congrArg Prod.snd hcz) (by simp)
            refine seqQ rfl rfl (yAssign (v := .bool _) rfl rfl) ?_
            refine seqNil ?_
            refine hF8 _ _ ?_; clear hF8
            refine wpSeq fun F12 hF12 => ?_
            refine wpBlock ?_
            refine wpSeq fun F13 hF13 => ?_
            refine wpRegion ?_
            refine seqQ rfl rfl (yMove (v := .bool _) rfl rfl) ?_
            refine seqQ rfl rfl (yNot rfl rfl) ?_
            refine seqQ rfl rfl (yAssign (v := .bool _) rfl rfl) ?_
            refine seqNil ?_
            refine hF13 _ _ ?_; clear hF13
            -- if t38
            refine wpF rfl ?_
            refine wpSeq fun F14 hF14 => ?_
            refine wpRegion ?_
            refine seqQ rfl rfl (yMove (v := .bool _) rfl rfl) ?_
            refine seqQ rfl rfl (yNot rfl rfl) ?_
            refine seqQ rfl rfl (yAssign (v := .bool _) rfl rfl) ?_
            refine seqNil ?_
            refine hF14 _ _ ?_; clear hF14
            -- if t47
            refine wpT rfl ?_
            refine wpSeq fun F15 hF15 => ?_
            refine wpRegion ?_
            refine seqQ rfl rfl (yLoadB hB9 rfl Try.underlying27 rfl Try.sizeOf27 rfl) ?_
            -- e slot None: store T27 t4 t50
            refine seqE0 rfl rfl (stepStoreB rfl (by kernel_rfl) rfl rfl rfl hB4 rfl ?_)
            intro Hm hBm hKm
            refine seqQ rfl rfl (yAssign (v := .int _ _) rfl rfl) ?_
            refine seqNil ?_
            refine hF15 _ _ ?_; clear hF15
            -- ret
            refine wpRet (finR2 rfl (resC Try.underlying27 rfl (by kernel_rfl) rfl hBm) (resT (v := .int _ _) rfl) ?_)
            rw [widZ_01 hb e e']
            refine ⟨hE.mine hKm (by simp; omega), _, rfl, ?_⟩
            exact (ZO.keep ⟨A2, ca2, rfl, ho9⟩ hKm (by omega)).fresh (by omega)
          · skip
            obtain ⟨L, e⟩ : ∃ L, closeZ a = (⟨a.N, L⟩, true) := by
              rcases closeZ_cases a with ⟨e, _⟩ | ⟨L, e, _⟩
              · rw [e] at hcz; exact absurd (congrArg Prod.snd hcz) (by simp)
              · exact ⟨L, e⟩
            refine seqQ rfl rfl (yAssign (v := .bool _) rfl rfl) ?_
            refine seqNil ?_
            refine hF8 _ _ ?_; clear hF8
            refine wpSeq fun F16 hF16 => ?_
            refine wpBlock ?_
            refine wpSeq fun F17 hF17 => ?_
            refine wpRegion ?_
            refine seqQ rfl rfl (yMove (v := .bool _) rfl rfl) ?_
            refine seqQ rfl rfl (yNot rfl rfl) ?_
            refine seqQ rfl rfl (yAssign (v := .bool _) rfl rfl) ?_
            refine seqNil ?_
            refine hF17 _ _ ?_; clear hF17
            -- if t38
            refine wpF rfl ?_
            refine wpSeq fun F18 hF18 => ?_
            refine wpRegion ?_
            refine seqQ rfl rfl (yMove (v := .bool _) rfl rfl) ?_
            refine seqQ rfl rfl (yNot rfl rfl) ?_
            refine seqQ rfl rfl (yAssign (v := .bool _) rfl rfl) ?_
            refine seqNil ?_
            refine hF18 _ _ ?_; clear hF18
            -- if t47
            refine wpF rfl ?_
            refine wpSkip ?_
            refine hF16 _ _ ?_; clear hF16
            refine wpSeq fun F19 hF19 => ?_
            refine wpRegion ?_
            refine seqQ rfl rfl (yFieldAddr rfl Try.underlying27 rfl Try.sizeOf3 rfl rfl) ?_
            refine seqQ rfl rfl (yLoad rfl Try.underlying3 rfl rfl (hB2.cell rfl)) ?_
            -- e slot 53: call F47<farandole/zone.zone> t52
            refine seqE rfl rfl (stepCall rfl Try.call47 rfl ?_)
            have hz := zone_c (dm a) H9 hda.2.1 hda.2.2.1
            rw [← hda.1] at hz
            refine hz.mono ?_
            rintro v He ⟨hxe, A5, c5, rfl, hoe⟩
            dsimp only at hoe
            have hf0 : 0 < (fulL (dm a)).length := by rw [fulL_len, ← hda.2.2.2]; exact ha0
            obtain ⟨p, rfl, -⟩ := (Own.rd hoe).2.at1 hf0
            have hpb := hoe.lt p.block rfl
            refine seqN rfl rfl (nAlloc rfl Try.zeroValue27 rfl) (fun g10 H10 hx10 hB10 hg10 hl10 => ?_)
            -- e slot None: store T27 t10 t53
            refine seqE0 rfl rfl (stepStoreB rfl (by kernel_rfl) rfl rfl rfl hB10 rfl ?_)
            intro Hm hBm hKm
            have st : ZSt H g4 g10 27 a.N p (fulL (dm a)).length c5 (fulL (dm a)) Hm := ⟨hE.trans (afterStore hxe hx10 hg10 hKm), (ownStore hoe hx10 hg10 hKm).mono (by omega), blkStore (hB4.ext hxe) hx10 hg10 hKm, hBm, by have := hB4.lt; omega, by omega, by omega, q4⟩
            have x10 := afterStore hxe hx10 hg10 hKm
            have sd := Side.mk' (T := 27) (hB9.ext x10) (Own.rd ho9).2 x10 hpb.1 l9
            have sa := Side.mk' (T := 27) (p := p) (hB2.ext x10) (hA.ext hE) x10 hpb.1 hB2.lt
            have hwl := widL_len (dm a) L' a.b
            have hfl := fulL_len (dm a)
            have hal2 := hda.2.2.2
            have hwf : (widL (dm a) L' a.b).length = (fulL (dm a)).length := by omega
            refine seqNil ?_
            refine hF19 _ _ ?_; clear hF19
            refine wpSeq fun F20 hF20 => ?_
            refine wpSeq fun F21 hF21 => ?_
            refine wpRegion ?_
            refine seqQ rfl rfl (yFieldAddr rfl Try.underlying27 rfl Try.sizeOf22 rfl rfl) ?_
            refine seqQ rfl rfl (yLoad rfl Try.underlying22 rfl rfl (st.b5.cell rfl)) ?_
            refine seqQ rfl rfl (yLen rfl Try.underlying22 rfl) ?_
            refine seqQ rfl rfl (yMove (v := .int _ _) rfl rfl) ?_
            refine seqNil ?_
            refine hF21 _ _ ?_; clear hF21
            -- loop
            refine wpBlock ?_
            refine wpLoopS [11, 57, 58, 59, 60, 61, 62, 63, 64, 65, 66, 67, 68, 69, 70, 71, 72, 73, 74, 75, 76, 77, 78, 79, 80] (fun k : Nat => [(57, .int .i64 k)]) (fun k H' => k ≤ (widL (dm a) L' a.b).length ∧ ZSt H g4 g10 27 a.N p (fulL (dm a)).length c5 ((widL (dm a) L' a.b).take k ++ (fulL (dm a)).drop k) H' ∧ Side g8 27 p [.int .i64 b.N, .slice A2 L'.length ca2] A2 L' H' ∧ Side g2 27 p (znC a A ca) A a.b H') (fun k => (widL (dm a) L' a.b).length - k) 0 ⟨rfl, trivial⟩ ⟨Nat.zero_le _, by simpa using st, sd, sa⟩ ?_
            rintro k J Hk ⟨hk, st1, sd1, sa1⟩
            clear st sd sa
            refine wpSeq fun F22 hF22 => ?_
            refine wpRegion ?_
            refine seqQ rfl rfl (yLss rfl rfl rfl) ?_
            refine seqNil ?_
            refine hF22 _ _ ?_; clear hF22
            refine wpSeq fun F23 hF23 => ?_
            -- if t58
            refine wpIf rfl (fun hlt => ?_) (fun hlt => ?_)
            · skip
              have hk : k < (widL (dm a) L' a.b).length := by omega
              have hkl : k < L'.length := by omega
              have hka : k < a.b.length := by omega
              have hw := widL_get hk
              rw [getD_of hkl, getD_of hka, getD_of (show k < (fulL (dm a)).length by omega)] at hw
              obtain ⟨q', eq', hq'⟩ := sd1.rd.rd.at1 hkl
              subst eq'
              obtain ⟨q, eq, hq⟩ := sa1.rd.rd.at1 hka
              subst eq
              refine wpSkip ?_
              refine hF23 _ _ ?_; clear hF23
              refine wpSeq fun F24 hF24 => ?_
              refine wpBlock ?_
              refine wpSeq fun F25 hF25 => ?_
              refine wpRegion ?_
              refine seqQ rfl rfl (yMove (v := .int _ _) rfl rfl) ?_
              refine seqQ rfl rfl (yAssign (v := .int _ _) rfl rfl) ?_
              refine seqNil ?_
              refine hF25 _ _ ?_; clear hF25
              refine wpSeq fun F26 hF26 => ?_
              refine wpRegionD Try_mixed [.q, .q, .q, .q, .q, .q, .q, .q, .q, .q, .q] 10 [0, 1, 0, 7, 15, 0, 32, 0, 224, 480, 1023] [] (by kernel_rfl) _ rfl [0, 1, 2, 3, 4, 5, 6, 7, 8, 9] rfl (by simp) ?_
              refine lexQ rfl rfl rfl rfl (fun H hM => (yFieldAddr rfl Try.underlying27 rfl Try.sizeOf22 rfl rfl)) ?_
              refine lexQ rfl rfl rfl rfl (fun H hM => (yLoad rfl Try.underlying22 rfl rfl (hM.ext.cell (sd1.b8.cell rfl)))) ?_
              refine lexQ rfl rfl rfl rfl (fun H hM => (yMove (v := .int _ _) rfl rfl)) ?_
              refine lexQ rfl rfl rfl rfl (fun H hM => (yIdx1 rfl Try.underlying22 Try.sizeOf3 rfl rfl rfl hkl)) ?_
              refine lexQ rfl rfl rfl rfl (fun H hM => (yLoad rfl Try.underlying3 rfl rfl (hM.ext.cell hq'))) ?_
              refine lexQ rfl rfl rfl rfl (fun H hM => (yFieldAddr rfl Try.underlying27 rfl Try.sizeOf22 rfl rfl)) ?_
              refine lexQ rfl rfl rfl rfl (fun H hM => (yLoad rfl Try.underlying22 rfl rfl (hM.ext.cell (sa1.b8.cell rfl)))) ?_
              refine lexQ rfl rfl rfl rfl (fun H hM => (yMove (v := .int _ _) rfl rfl)) ?_
              refine lexQ rfl rfl rfl rfl (fun H hM => (yIdx1 rfl Try.underlying22 Try.sizeOf3 rfl rfl rfl hka)) ?_
              refine lexQ rfl rfl rfl rfl (fun H hM => (yLoad rfl Try.underlying3 rfl rfl (hM.ext.cell hq))) ?_
              -- tail
              refine lexNil0 rfl (fun hM => ?_)
              refine seqQ rfl rfl (yLeq rfl rfl rfl) ?_
              refine seqNil ?_
              refine hF26 _ _ ?_; clear hF26
              -- if t70
              refine wpIf rfl (fun hle => ?_) (fun hle => ?_)
              · skip
                have hle : L'[k] ≤ a.b[k] := hle
                rw [if_pos hle] at hw
                refine wpRegionD Try_mixed [.q, .q, .q, .q, .q, .q, .q, .q, .q, .e] 8 [0, 1, 0, 0, 8, 0, 56, 120, 255, 511] [] (by kernel_rfl) _ rfl [0, 1, 2, 3, 4, 5, 6, 7] rfl (by simp) ?_
                refine lexQ rfl rfl rfl rfl (fun H hM => (yFieldAddr rfl Try.underlying27 rfl Try.sizeOf22 rfl rfl)) ?_
                refine lexQ rfl rfl rfl rfl (fun H hM => (yLoad rfl Try.underlying22 rfl rfl (hM.ext.cell (st1.b5.cell rfl)))) ?_
                refine lexQ rfl rfl rfl rfl (fun H hM => (yMove (v := .int _ _) rfl rfl)) ?_
                refine lexQ rfl rfl rfl rfl (fun H hM => (yFieldAddr rfl Try.underlying27 rfl Try.sizeOf22 rfl rfl)) ?_
                refine lexQ rfl rfl rfl rfl (fun H hM => (yLoad rfl Try.underlying22 rfl rfl (hM.ext.cell (sa1.b8.cell rfl)))) ?_
                refine lexQ rfl rfl rfl rfl (fun H hM => (yMove (v := .int _ _) rfl rfl)) ?_
                refine lexQ rfl rfl rfl rfl (fun H hM => (yIdx1 rfl Try.underlying22 Try.sizeOf3 rfl rfl rfl hka)) ?_
                refine lexQ rfl rfl rfl rfl (fun H hM => (yLoad rfl Try.underlying3 rfl rfl (hM.ext.cell hq))) ?_
                -- tail
                refine lexNil0 rfl (fun hM => ?_)
                refine seqQ rfl rfl (yIdx1 rfl Try.underlying22 Try.sizeOf3 rfl rfl rfl (by omega)) ?_
                -- e slot None: store T3 t79 t78
                refine seqE0 rfl rfl (stepStoreOwn st1.own rfl Try.sizeOf3 rfl rfl rfl rfl (by have := td_len (k := k) hwf (by omega); omega) ?_)
                intro H5 hown5 hK5
                rw [td_set hwf (by omega) hw.symm] at hown5
                refine seqNil ?_
                refine hF24 _ _ ?_; clear hF24
                refine wpRegion ?_
                refine seqQ rfl rfl (yAdd rfl rfl rfl (by unfold In64; omega)) ?_
                refine seqQ rfl rfl (yMove (v := .int _ _) rfl rfl) ?_
                refine seqNil ?_
                -- end loop
                exact loopEnd (k + 1) (by repeat (first | (with_reducible exact Agree.refl _ _) | refine Agree.upd ?_ rfl | refine Agree.over ?_ rfl)) (by omega) ⟨rfl, trivial⟩ ⟨hk, st1.store hown5 hK5, sd1.store hK5, sa1.store hK5⟩
              · skip
                have hle : ¬ L'[k] ≤ a.b[k] := hle
                rw [if_neg hle] at hw
                refine wpSkip ?_
                refine hF24 _ _ ?_; clear hF24
                refine wpRegion ?_
                refine seqQ rfl rfl (yAdd rfl rfl rfl (by unfold In64; omega)) ?_
                refine seqQ rfl rfl (yMove (v := .int _ _) rfl rfl) ?_
                refine seqNil ?_
                -- end loop
                exact loopEnd (k + 1) (by repeat (first | (with_reducible exact Agree.refl _ _) | refine Agree.upd ?_ rfl | refine Agree.over ?_ rfl)) (by omega) ⟨rfl, trivial⟩ ⟨hk, by rw [← td_same hwf hk hw]; exact st1, sd1, sa1⟩
            · skip
              have ek : k = (widL (dm a) L' a.b).length := by omega
              rw [ek, hwf, List.drop_length, List.append_nil, ← hwf, List.take_length] at st1
              refine wpExit ?_
              refine hF20 _ _ ?_; clear hF20
              refine wpSeq fun F27 hF27 => ?_
              refine wpRegion ?_
              refine seqQ rfl rfl (yLoadB st1.b5 rfl Try.underlying27 rfl Try.sizeOf27 rfl) ?_
              -- e slot None: store T27 t4 t81
              refine seqE0 rfl rfl (stepStoreB rfl (by kernel_rfl) rfl rfl rfl st1.b2 rfl ?_)
              intro H7 hB7 hK7
              refine seqQ rfl rfl (yAssign (v := .int _ _) rfl rfl) ?_
              refine seqNil ?_
              refine hF27 _ _ ?_; clear hF27
              -- ret
              refine wpRet (finR2 rfl (resC Try.underlying27 rfl (by kernel_rfl) rfl hB7) (resT (v := .int _ _) rfl) ?_)
              have hd := st1.done hK7
              rw [widZ_11 hb e e']
              refine ⟨hd.1, _, rfl, ?_⟩
              exact ZO.of (N := a.N) hd.2
set_option maxRecDepth 100000 in
theorem rWiden_c (a b : Zn) (A B : Option Addr) (ca cb : Nat) (H : Heap) (hA : Rd eInt H A a.b) (hB : Rd eInt H B b.b) (h8 : a.N ≤ 8) :
    CallsH Try.prog 39 [.agg (znC a A ca).toArray, .agg (znC b B cb).toArray] H fun v H' => Ext H H' ∧ ∃ u, v = .tuple #[u, .int .i64 (widZ a b).2] ∧ ZO H' H.size u (widZ a b).1 := by
  refine callsH_of Try.func39 rfl Try.ntmps39 (Nat.le_of_ble_eq_true rfl) ?_
  refine wpSeq fun F1 hF1 => ?_
  refine wpRegion ?_
  refine seqN rfl rfl (nBoxA rfl rfl) (fun g2 H2 hx2 hB2 hg2 hl2 => ?_)
  refine seqN rfl rfl (nBoxA rfl rfl) (fun g3 H3 hx3 hB3 hg3 hl3 => ?_)
  refine seqN rfl rfl (nAlloc rfl Try.zeroValue24 rfl) (fun g4 H4 hx4 hB4 hg4 hl4 => ?_)
  refine seqQ rfl rfl (yAssign (v := .int _ _) rfl rfl) ?_
  refine seqNil ?_
  refine hF1 _ _ ?_; clear hF1
  refine wpSeq fun F2 hF2 => ?_
  refine wpSeq fun F3 hF3 => ?_
  refine wpRegion ?_
  refine seqQ rfl rfl (yLoadB ((hB2.ext hx3).ext hx4) rfl Try.underlying24 rfl Try.sizeOf24 rfl) ?_
  -- e slot 15: call F28<farandole/farandoleref13.Valid> t14
  refine seqE rfl rfl (stepCall rfl Try.call28 rfl ?_)
  refine (rvalid_c a A ca _ (((hA.ext hx2).ext hx3).ext hx4)).mono ?_
  rintro v H5 ⟨rfl, hx5⟩
  have hE := ((hx2.trans hx3).trans hx4).trans hx5
  have q4 : H.size ≤ g4 := by have := hx2.size; have := hx3.size; omega
  replace hB2 := ((hB2.ext hx3).ext hx4).ext hx5
  replace hB3 := (hB3.ext hx4).ext hx5
  replace hB4 := hB4.ext hx5
  clear hx2 hx3 hx4 hx5
  refine seqQ rfl rfl (yNot rfl rfl) ?_
  -- guard t17
  refine seqGB rfl rfl rfl rfl (fun hv => ?_) (fun hv => ?_)
  · skip
    have hv : ¬ ValZ a := by simpa using hv
    refine seqU rfl rfl ?_
    refine seqU rfl rfl ?_
    refine seqU rfl rfl ?_
    refine seqQ rfl rfl (yPickT (v := .bool _) rfl rfl rfl) ?_
    refine seqQ rfl rfl (yMove (v := .bool true) rfl rfl) ?_
    refine seqU rfl rfl ?_
    refine seqU rfl rfl ?_
    refine seqU rfl rfl ?_
    refine seqU rfl rfl ?_
    refine seqU rfl rfl ?_
    refine seqQ rfl rfl (yPickT (v := .bool _) rfl rfl rfl) ?_
    refine seqNil ?_
    refine hF3 _ _ ?_; clear hF3
    -- if t28
    refine wpT rfl ?_
    refine wpSeq fun F4 hF4 => ?_
    refine wpRegion ?_
    refine seqQ rfl rfl (yBuild (pl := [(0, 1), (1, 1)]) (vs := []) rfl Try.underlying24 Try.zeroValue24 rfl (by unfold Places; kernel_rfl) rfl rfl) ?_
    -- e slot None: store T24 t4 t29
    refine seqE0 rfl rfl (stepStoreB rfl (by kernel_rfl) rfl rfl rfl hB4 rfl ?_)
    intro H6 hB6 hK6
    refine seqQ rfl rfl (yAssign (v := .int _ _) rfl rfl) ?_
    refine seqNil ?_
    refine hF4 _ _ ?_; clear hF4
    -- ret
    refine wpRet (finR2 rfl (resC Try.underlying24 rfl (by kernel_rfl) rfl hB6) (resT (v := .int _ _) rfl) ?_)
    rw [widZ_no (fun h => hv h.1)]
    exact ⟨hE.mine hK6 (by simp; omega), _, rfl, ZO.zero _ _⟩
  · skip
    have hv : ValZ a := by simpa using hv
    refine seqQ rfl rfl (yLoadB hB3 rfl Try.underlying24 rfl Try.sizeOf24 rfl) ?_
    -- e slot 19: call F28<farandole/farandoleref13.Valid> t18
    refine seqE rfl rfl (stepCall rfl Try.call28 rfl ?_)
    refine (rvalid_c b B cb _ (hB.ext hE)).mono ?_
    rintro v H5 ⟨rfl, hx5⟩
    replace hE := hE.trans hx5
    replace hB2 := hB2.ext hx5
    replace hB3 := hB3.ext hx5
    replace hB4 := hB4.ext hx5
    clear hx5
    refine seqQ rfl rfl (yNot rfl rfl) ?_
    refine seqQ rfl rfl (yPickF (v := .bool _) rfl rfl rfl) ?_
    -- guard t22
    refine seqGB rfl rfl rfl rfl (fun hw => ?_) (fun hw => ?_)
    · skip
      have hw : ¬ ValZ b := by simpa using hw
      refine seqU rfl rfl ?_
      refine seqU rfl rfl ?_
      refine seqU rfl rfl ?_
      refine seqU rfl rfl ?_
      refine seqU rfl rfl ?_
      refine seqQ rfl rfl (yPickT (v := .bool _) rfl rfl rfl) ?_
      refine seqNil ?_
      refine hF3 _ _ ?_; clear hF3
      -- if t28
      refine wpT rfl ?_
      refine wpSeq fun F5 hF5 => ?_
      refine wpRegion ?_
      refine seqQ rfl rfl (yBuild (pl := [(0, 1), (1, 1)]) (vs := []) rfl Try.underlying24 Try.zeroValue24 rfl (by unfold Places; kernel_rfl) rfl rfl) ?_
      -- e slot None: store T24 t4 t29
      refine seqE0 rfl rfl (stepStoreB rfl (by kernel_rfl) rfl rfl rfl hB4 rfl ?_)
      intro H6 hB6 hK6
      refine seqQ rfl rfl (yAssign (v := .int _ _) rfl rfl) ?_
      refine seqNil ?_
      refine hF5 _ _ ?_; clear hF5
      -- ret
      refine wpRet (finR2 rfl (resC Try.underlying24 rfl (by kernel_rfl) rfl hB6) (resT (v := .int _ _) rfl) ?_)
      rw [widZ_no (fun h => hw h.2.1)]
      exact ⟨hE.mine hK6 (by simp; omega), _, rfl, ZO.zero _ _⟩
    · skip
      have hw : ValZ b := by simpa using hw
      refine seqQ rfl rfl (yFieldAddr rfl Try.underlying24 rfl Try.sizeOf3 rfl rfl) ?_
      refine seqQ rfl rfl (yLoad rfl Try.underlying3 rfl rfl (hB2.cell rfl)) ?_
      refine seqQ rfl rfl (yFieldAddr rfl Try.underlying24 rfl Try.sizeOf3 rfl rfl) ?_
      refine seqQ rfl rfl (yLoad rfl Try.underlying3 rfl rfl (hB3.cell rfl)) ?_
      refine seqQ rfl rfl (yNeq rfl rfl rfl) ?_
      refine seqQ rfl rfl (yPickF (v := .bool _) rfl rfl rfl) ?_
      refine seqNil ?_
      refine hF3 _ _ ?_; clear hF3
      -- if t28
      refine wpCond rfl (fun hn => ?_) (fun hn => ?_)
      · skip
        have hn : ¬ a.N = b.N := by simpa using hn
        refine wpSeq fun F6 hF6 => ?_
        refine wpRegion ?_
        refine seqQ rfl rfl (yBuild (pl := [(0, 1), (1, 1)]) (vs := []) rfl Try.underlying24 Try.zeroValue24 rfl (by unfold Places; kernel_rfl) rfl rfl) ?_
        -- e slot None: store T24 t4 t29
        refine seqE0 rfl rfl (stepStoreB rfl (by kernel_rfl) rfl rfl rfl hB4 rfl ?_)
        intro H6 hB6 hK6
        refine seqQ rfl rfl (yAssign (v := .int _ _) rfl rfl) ?_
        refine seqNil ?_
        refine hF6 _ _ ?_; clear hF6
        -- ret
        refine wpRet (finR2 rfl (resC Try.underlying24 rfl (by kernel_rfl) rfl hB6) (resT (v := .int _ _) rfl) ?_)
        rw [widZ_no (fun h => hn h.2.2)]
        exact ⟨hE.mine hK6 (by simp; omega), _, rfl, ZO.zero _ _⟩
      · skip
        have hn : a.N = b.N := by simpa using hn
        have hb : Both a b := ⟨hv, hw, hn⟩
        have hda := hv.dim
        have hdb := hw.dim
        rw [← hb.dm] at hdb
        have sE := hE.size
        have l4 := hB4.lt
        have l2 := hB2.lt
        have hal : a.b.length ≤ 625 := by rw [hda.2.2.2]; exact mul25 hda.2.2.1 hda.2.2.1
        have ha0 : 0 < a.b.length := by rw [hda.2.2.2]; exact Nat.mul_pos hda.2.1 hda.2.1
        obtain ⟨⟨zc, ok⟩, hcz⟩ : ∃ r, closeZ a = r := ⟨_, rfl⟩
        refine wpSkip ?_
        refine hF2 _ _ ?_; clear hF2
        refine wpSeq fun F7 hF7 => ?_
        refine wpRegion ?_
        refine seqQ rfl rfl (yLoadB hB2 rfl Try.underlying24 rfl Try.sizeOf24 rfl) ?_
        -- e slot 32: call F16<farandole/farandoleref13.Close> t31
        refine seqE rfl rfl (stepCall rfl Try.call16 rfl ?_)
        have hc := rClose_c a A ca _ (hA.ext hE) h8
        rw [hcz] at hc
        dsimp only at hc
        refine hc.mono ?_
        rintro v Hc ⟨hxc, u, rfl, A', ca', rfl, ho⟩
        refine seqQ rfl rfl (yMove (v := .tuple _) rfl rfl) ?_
        refine seqQ rfl rfl (yExtract (v := .agg _) rfl rfl rfl) ?_
        refine seqQ rfl rfl (yExtract (v := .bool _) rfl rfl rfl) ?_
        refine seqN rfl rfl (nAlloc rfl Try.zeroValue24 rfl) (fun g6 H6 hx6 hB6 hg6 hl6 => ?_)
        -- e slot None: store T24 t6 t33
        refine seqE0 rfl rfl (stepStoreB rfl (by kernel_rfl) rfl rfl rfl hB6 rfl ?_)
        intro H7 hB7 hK7
        have x7 := afterStore hxc hx6 hg6 hK7
        replace hE := hE.trans x7
        replace hB2 := hB2.ext x7
        replace hB3 := hB3.ext x7
        replace hB4 := hB4.ext x7
        have l47 := hB4.lt
        clear hxc hx6 hK7 x7 ho hc hB6 hB7
        refine seqQ rfl rfl (yAssign (v := .bool _) rfl rfl) ?_
        refine seqNil ?_
        refine hF7 _ _ ?_; clear hF7
        refine wpSeq fun F8 hF8 => ?_
        refine wpRegion ?_
        refine seqQ rfl rfl (yLoadB hB3 rfl Try.underlying24 rfl Try.sizeOf24 rfl) ?_
        -- e slot 37: call F16<farandole/farandoleref13.Close> t36
        refine seqE rfl rfl (stepCall rfl Try.call16 rfl ?_)
        have hc := rClose_c b B cb _ (hB.ext hE) (by omega)
        rcases closeZ_cases b with ⟨e', _⟩ | ⟨L', e', -, hL'⟩
        · skip
          rw [e'] at hc
          refine hc.mono ?_
          rintro v Hd ⟨hxd, u, rfl, A2, ca2, rfl, ho2⟩
          refine seqQ rfl rfl (yMove (v := .tuple _) rfl rfl) ?_
          refine seqQ rfl rfl (yExtract (v := .agg _) rfl rfl rfl) ?_
          refine seqQ rfl rfl (yExtract (v := .bool _) rfl rfl rfl) ?_
          refine seqN rfl rfl (nAlloc rfl Try.zeroValue24 rfl) (fun g8 H8 hx8 hB8 hg8 hl8 => ?_)
          -- e slot None: store T24 t8 t38
          refine seqE0 rfl rfl (stepStoreB rfl (by kernel_rfl) rfl rfl rfl hB8 rfl ?_)
          intro H9 hB9 hK9
          have x9 := afterStore hxd hx8 hg8 hK9
          replace hE := hE.trans x9
          replace hB2 := hB2.ext x9
          replace hB4 := hB4.ext x9
          clear hxd hx8 hK9 x9 ho2 hc hB8 hB9
          have sE2 := hE.size
          have l42 := hB4.lt
          refine seqQ rfl rfl (yAssign (v := .bool _) rfl rfl) ?_
          refine seqNil ?_
          refine hF8 _ _ ?_; clear hF8
          refine wpSeq fun F9 hF9 => ?_
          refine wpRegion ?_
          refine seqQ rfl rfl (yFieldAddr rfl Try.underlying24 rfl Try.sizeOf3 rfl rfl) ?_
          refine seqQ rfl rfl (yLoad rfl Try.underlying3 rfl rfl (hB2.cell rfl)) ?_
          refine seqQ rfl rfl (yAddE rfl rfl rfl (by unfold In64; omega) hv.succ) ?_
          refine seqQ rfl rfl (yAssign (v := .int _ _) rfl rfl) ?_
          refine seqNil ?_
          refine hF9 _ _ ?_; clear hF9
          refine wpSeq fun F10 hF10 => ?_
          refine wpRegionD Try_mixed [.q, .q, .n, .q, .q, .e, .q, .n, .e] 8 [0, 1, 0, 0, 8, 28, 63, 0, 255] [] (by kernel_rfl) _ rfl [0, 1, 2, 3, 4, 5, 6, 7] rfl (by simp) ?_
          refine lexQ rfl rfl rfl rfl (fun H hM => (yFieldAddr rfl Try.underlying24 rfl Try.sizeOf3 rfl rfl)) ?_
          refine lexQ rfl rfl rfl rfl (fun H hM => (yLoad rfl Try.underlying3 rfl rfl (hM.ext.cell (hB2.cell rfl)))) ?_
          refine lexNB rfl rfl rfl rfl (nBuildSlice (vs := []) rfl Try.underlying22 Try.sizeOf3 Try.zeroValue3 rfl rfl rfl rfl) (fun g45 hg45 hne45 => ?_)
          refine lexQ rfl rfl rfl rfl (fun H hM => (yFieldAddr rfl Try.underlying24 rfl Try.sizeOf22 rfl rfl)) ?_
          refine lexQ rfl rfl rfl rfl (fun H hM => (yLoad rfl Try.underlying22 rfl rfl (hM.ext.cell (hB2.cell rfl)))) ?_
          -- e slot 48: builtin append t45 t47 : [22, 22]
          have hn45 : ∀ z ∈ ([] : List NF), z.g ≠ g45 := by simp
          refine lexEG rfl rfl rfl rfl (by first | assumption | omega) (by first | (dsimp only; rfl) | kernel_rfl) hn45 (fun Hs hXs hMs hBs hFs => stepApp (c := eInt) (Own.lit (c := eInt) (l := []) (base := H9.size) hBs hg45 (by simp)) rfl Try.underlying22 elem_eInt rfl (by omega) rfl rfl rfl ((hA.ext hE).ext hMs.ext) (by simp; omega) (hMs.ext.size) ?_)
          intro v H10 hown hgrew
          rw [List.nil_append] at hown
          obtain ⟨A5, c5, rfl, -, hrd, hbb⟩ := hown.form
          obtain ⟨p, rfl, hp⟩ := hrd.at1 (k := 0) ha0
          obtain ⟨hb1, hb2, hb3⟩ := hbb p rfl
          have hx10 : Ext H9 H10 := hgrew.ext hMs.ext (by rintro g e; obtain rfl := Option.some.inj e; exact hg45)
          refine lexApp rfl hgrew (by simp) (by intro g e; exact (hown.lt g e).2) ?_
          refine lexQ rfl rfl rfl rfl (fun H hM => (yBuild (pl := [(0, 1), (1, 1)]) (vs := [(0, .int _ _), (1, .slice _ _ _)]) rfl Try.underlying24 Try.zeroValue24 rfl (by unfold Places; kernel_rfl) rfl rfl)) ?_
          refine lexNB rfl rfl rfl rfl (nAlloc rfl Try.zeroValue24 rfl) (fun g11 hg11 hne11 => ?_)
          -- tail
          refine lexNilM (fun Hf hXf hMf hNf hFf => ?_)
          have hB11 := NF.blk 7 hNf (.head _)
          have n11 : g11 ≠ p.block := fun e => hFf _ (.head _) (List.mem_append.2 (.inl (by rw [Option.mem_toList]; exact congrArg some e.symm)))
          -- e slot None: store T24 t11 t49
          refine seqE0 rfl rfl (stepStoreB rfl (by kernel_rfl) rfl rfl rfl hB11 rfl ?_)
          intro H12 hB12 hK12
          have x12 := (hx10.trans hXf).mine hK12 (by simp; omega)
          have st : ZSt H g4 g11 24 a.N p a.b.length c5 a.b H12 :=
            ⟨hE.trans x12, ((hown.mono (by omega)).ext hXf).keep hK12 (by intro b e; obtain rfl := Option.some.inj e; simp; exact fun h => n11 h.symm), hB4.ext x12, hB12, by have := hB4.lt; omega, n11, by omega, q4⟩
          refine seqNil ?_
          refine hF10 _ _ ?_; clear hF10
          refine wpSeq fun F11 hF11 => ?_
          refine wpBlock ?_
          refine wpSeq fun F12 hF12 => ?_
          refine wpRegion ?_
          refine seqQ rfl rfl (yMove (v := .bool _) rfl rfl) ?_
          refine seqQ rfl rfl (yNot rfl rfl) ?_
          refine seqQ rfl rfl (yAssign (v := .bool _) rfl rfl) ?_
          refine seqNil ?_
          refine hF12 _ _ ?_; clear hF12
          -- if t50
          refine wpT rfl ?_
          refine wpSeq fun F13 hF13 => ?_
          refine wpRegion ?_
          refine seqQ rfl rfl (yLoadB st.b5 rfl Try.underlying24 rfl Try.sizeOf24 rfl) ?_
          -- e slot None: store T24 t4 t53
          refine seqE0 rfl rfl (stepStoreB rfl (by kernel_rfl) rfl rfl rfl st.b2 rfl ?_)
          intro Hm hBm hKm
          refine seqQ rfl rfl (yAssign (v := .int _ _) rfl rfl) ?_
          refine seqNil ?_
          refine hF13 _ _ ?_; clear hF13
          -- ret
          refine wpRet (finR2 rfl (resC Try.underlying24 rfl (by kernel_rfl) rfl hBm) (resT (v := .int _ _) rfl) ?_)
          have hd := st.done hKm
          rw [widZ_x0 hb e']
          exact ⟨hd.1, _, rfl, ZO.of (N := a.N) hd.2⟩
        · skip
          rw [e'] at hc
          refine hc.mono ?_
          rintro v Hd ⟨hxd, u, rfl, A2, ca2, rfl, ho2⟩
          have s8 := hE.size
          refine seqQ rfl rfl (yMove (v := .tuple _) rfl rfl) ?_
          refine seqQ rfl rfl (yExtract (v := .agg _) rfl rfl rfl) ?_
          refine seqQ rfl rfl (yExtract (v := .bool _) rfl rfl rfl) ?_
          refine seqN rfl rfl (nAlloc rfl Try.zeroValue24 rfl) (fun g8 H8 hx8 hB8 hg8 hl8 => ?_)
          -- e slot None: store T24 t8 t38
          refine seqE0 rfl rfl (stepStoreB rfl (by kernel_rfl) rfl rfl rfl hB8 rfl ?_)
          intro H9 hB9 hK9
          have x9 := afterStore hxd hx8 hg8 hK9
          have ho9 := ownStore ho2 hx8 hg8 hK9
          have sxd := hxd.size
          replace hE := hE.trans x9
          replace hB2 := hB2.ext x9
          replace hB4 := hB4.ext x9
          clear hxd hx8 hK9 x9 ho2 hc hB8
          have sE9 := hE.size
          have l9 := hB9.lt
          have l8 := hB4.lt
          have hll' := hL'.len
          rw [← hb.dm] at hll'
          refine seqQ rfl rfl (yAssign (v := .bool _) rfl rfl) ?_
          refine seqNil ?_
          refine hF8 _ _ ?_; clear hF8
          refine wpSeq fun F14 hF14 => ?_
          refine wpRegion ?_
          refine seqQ rfl rfl (yFieldAddr rfl Try.underlying24 rfl Try.sizeOf3 rfl rfl) ?_
          refine seqQ rfl rfl (yLoad rfl Try.underlying3 rfl rfl (hB2.cell rfl)) ?_
          refine seqQ rfl rfl (yAddE rfl rfl rfl (by unfold In64; omega) hv.succ) ?_
          refine seqQ rfl rfl (yAssign (v := .int _ _) rfl rfl) ?_
          refine seqNil ?_
          refine hF14 _ _ ?_; clear hF14
          refine wpSeq fun F15 hF15 => ?_
          refine wpRegionD Try_mixed [.q, .q, .n, .q, .q, .e, .q, .n, .e] 8 [0, 1, 0, 0, 8, 28, 63, 0, 255] [] (by kernel_rfl) _ rfl [0, 1, 2, 3, 4, 5, 6, 7] rfl (by simp) ?_
          refine lexQ rfl rfl rfl rfl (fun H hM => (yFieldAddr rfl Try.underlying24 rfl Try.sizeOf3 rfl rfl)) ?_
          refine lexQ rfl rfl rfl rfl (fun H hM => (yLoad rfl Try.underlying3 rfl rfl (hM.ext.cell (hB2.cell rfl)))) ?_
          refine lexNB rfl rfl rfl rfl (nBuildSlice (vs := []) rfl Try.underlying22 Try.sizeOf3 Try.zeroValue3 rfl rfl rfl rfl) (fun g45 hg45 hne45 => ?_)
          refine lexQ rfl rfl rfl rfl (fun H hM => (yFieldAddr rfl Try.underlying24 rfl Try.sizeOf22 rfl rfl)) ?_
          refine lexQ rfl rfl rfl rfl (fun H hM => (yLoad rfl Try.underlying22 rfl rfl (hM.ext.cell (hB2.cell rfl)))) ?_
          -- e slot 48: builtin append t45 t47 : [22, 22]
          have hn45 : ∀ z ∈ ([] : List NF), z.g ≠ g45 := by simp
          refine lexEG rfl rfl rfl rfl (by first | assumption | omega) (by first | (dsimp only; rfl) | kernel_rfl) hn45 (fun Hs hXs hMs hBs hFs => stepApp (c := eInt) (Own.lit (c := eInt) (l := []) (base := H9.size) hBs hg45 (by simp)) rfl Try.underlying22 elem_eInt rfl (by omega) rfl rfl rfl ((hA.ext hE).ext hMs.ext) (by simp; omega) (hMs.ext.size) ?_)
          intro v H10 hown hgrew
          rw [List.nil_append] at hown
          obtain ⟨A5, c5, rfl, -, hrd, hbb⟩ := hown.form
          obtain ⟨p, rfl, hp⟩ := hrd.at1 (k := 0) ha0
          obtain ⟨hb1, hb2, hb3⟩ := hbb p rfl
          have hx10 : Ext H9 H10 := hgrew.ext hMs.ext (by rintro g e; obtain rfl := Option.some.inj e; exact hg45)
          refine lexApp rfl hgrew (by simp) (by intro g e; exact (hown.lt g e).2) ?_
          refine lexQ rfl rfl rfl rfl (fun H hM => (yBuild (pl := [(0, 1), (1, 1)]) (vs := [(0, .int _ _), (1, .slice _ _ _)]) rfl Try.underlying24 Try.zeroValue24 rfl (by unfold Places; kernel_rfl) rfl rfl)) ?_
          refine lexNB rfl rfl rfl rfl (nAlloc rfl Try.zeroValue24 rfl) (fun g11 hg11 hne11 => ?_)
          -- tail
          refine lexNilM (fun Hf hXf hMf hNf hFf => ?_)
          have hB11 := NF.blk 7 hNf (.head _)
          have n11 : g11 ≠ p.block := fun e => hFf _ (.head _) (List.mem_append.2 (.inl (by rw [Option.mem_toList]; exact congrArg some e.symm)))
          -- e slot None: store T24 t11 t49
          refine seqE0 rfl rfl (stepStoreB rfl (by kernel_rfl) rfl rfl rfl hB11 rfl ?_)
          intro H12 hB12 hK12
          have x12 := (hx10.trans hXf).mine hK12 (by simp; omega)
          have st : ZSt H g4 g11 24 a.N p a.b.length c5 a.b H12 :=
            ⟨hE.trans x12, ((hown.mono (by omega)).ext hXf).keep hK12 (by intro b e; obtain rfl := Option.some.inj e; simp; exact fun h => n11 h.symm), hB4.ext x12, hB12, by have := hB4.lt; omega, n11, by omega, q4⟩
          cases ok
          · skip
            have e : closeZ a = (zn0, false) := by
              rcases closeZ_cases a with ⟨e, _⟩ | ⟨L, e, _⟩
              · exact e
              · rw [e] at hcz; exact absurd (congrArg Prod.snd hcz) (by simp)
            refine seqNil ?_
            refine hF15 _ _ ?_; clear hF15
            refine wpSeq fun F16 hF16 => ?_
            refine wpBlock ?_
            refine wpSeq fun F17 hF17 => ?_
            refine wpRegion ?_
            refine seqQ rfl rfl (yMove (v := .bool _) rfl rfl) ?_
            refine seqQ rfl rfl (yNot rfl rfl) ?_
            refine seqQ rfl rfl (yAssign (v := .bool _) rfl rfl) ?_
            refine seqNil ?_
            refine hF17 _ _ ?_; clear hF17
            -- if t50
            refine wpF rfl ?_
            refine wpSeq fun F18 hF18 => ?_
            refine wpRegion ?_
            refine seqQ rfl rfl (yMove (v := .bool _) rfl rfl) ?_
            refine seqQ rfl rfl (yNot rfl rfl) ?_
            refine seqQ rfl rfl (yAssign (v := .bool _) rfl rfl) ?_
            refine seqNil ?_
            refine hF18 _ _ ?_; clear hF18
            -- if t54
            refine wpT rfl ?_
            refine wpSeq fun F19 hF19 => ?_
            refine wpRegion ?_
            refine seqQ rfl rfl (yLoadB (hB9.ext x12) rfl Try.underlying24 rfl Try.sizeOf24 rfl) ?_
            -- e slot None: store T24 t4 t57
            refine seqE0 rfl rfl (stepStoreB rfl (by kernel_rfl) rfl rfl rfl st.b2 rfl ?_)
            intro Hm hBm hKm
            refine seqQ rfl rfl (yAssign (v := .int _ _) rfl rfl) ?_
            refine seqNil ?_
            refine hF19 _ _ ?_; clear hF19
            -- ret
            refine wpRet (finR2 rfl (resC Try.underlying24 rfl (by kernel_rfl) rfl hBm) (resT (v := .int _ _) rfl) ?_)
            rw [widZ_01 hb e e']
            refine ⟨st.ext.mine hKm (by simp; omega), _, rfl, ?_⟩
            exact (ZO.keep ⟨A2, ca2, rfl, (ho9.ext x12)⟩ hKm (by omega)).fresh (by omega)
          · skip
            obtain ⟨L, e⟩ : ∃ L, closeZ a = (⟨a.N, L⟩, true) := by
              rcases closeZ_cases a with ⟨e, _⟩ | ⟨L, e, _⟩
              · rw [e] at hcz; exact absurd (congrArg Prod.snd hcz) (by simp)
              · exact ⟨L, e⟩
            refine seqNil ?_
            refine hF15 _ _ ?_; clear hF15
            refine wpSeq fun F20 hF20 => ?_
            refine wpBlock ?_
            refine wpSeq fun F21 hF21 => ?_
            refine wpRegion ?_
            refine seqQ rfl rfl (yMove (v := .bool _) rfl rfl) ?_
            refine seqQ rfl rfl (yNot rfl rfl) ?_
            refine seqQ rfl rfl (yAssign (v := .bool _) rfl rfl) ?_
            refine seqNil ?_
            refine hF21 _ _ ?_; clear hF21
            -- if t50
            refine wpF rfl ?_
            refine wpSeq fun F22 hF22 => ?_
            refine wpRegion ?_
            refine seqQ rfl rfl (yMove (v := .bool _) rfl rfl) ?_
            refine seqQ rfl rfl (yNot rfl rfl) ?_
            refine seqQ rfl rfl (yAssign (v := .bool _) rfl rfl) ?_
            refine seqNil ?_
            refine hF22 _ _ ?_; clear hF22
            -- if t54
            refine wpF rfl ?_
            have sd := Side.mk' (T := 24) (hB9.ext x12) (Own.rd ho9).2 x12 hb1 l9
            have hal2 := hda.2.2.2
            refine wpSkip ?_
            refine hF20 _ _ ?_; clear hF20
            refine wpSeq fun F23 hF23 => ?_
            refine wpSeq fun F24 hF24 => ?_
            refine wpRegion ?_
            refine seqQ rfl rfl (yAssign (v := .int _ _) rfl rfl) ?_
            refine seqNil ?_
            refine hF24 _ _ ?_; clear hF24
            -- loop
            refine wpBlock ?_
            refine wpLoopS [12, 13, 58, 59, 60, 61, 62, 63, 64, 65, 66, 67, 68, 69, 70, 71, 72, 73, 74, 75, 76, 77, 78, 79, 80, 81, 82, 83, 84, 85, 86, 87, 88, 89, 90, 91, 92, 93, 94, 95, 96, 97] (fun i : Nat => [(12, .int .i64 i)]) (fun i H' => i ≤ dm a ∧ ZSt H g4 g11 24 a.N p a.b.length c5 (sI (dm a) (fun i j K => if mt (dm a) K i j < mt (dm a) L' i j then ful i j else mt (dm a) K i j) i a.b) H' ∧ Side g8 24 p [.int .i64 b.N, .slice A2 L'.length ca2] A2 L' H') (fun i => dm a - i) 0 ⟨rfl, trivial⟩ ⟨Nat.zero_le _, st, sd⟩ ?_
            rintro i J Hi ⟨hi, st1, sd1⟩
            clear st sd
            refine wpSeq fun F25 hF25 => ?_
            refine wpSeq fun F26 hF26 => ?_
            refine wpRegion ?_
            refine seqQ rfl rfl (yMove (v := .int _ _) rfl rfl) ?_
            refine seqQ rfl rfl (yMove (v := .int _ _) rfl rfl) ?_
            refine seqQ rfl rfl (yLss rfl rfl rfl) ?_
            refine seqNil ?_
            refine hF26 _ _ ?_; clear hF26
            -- if t60
            refine wpIf rfl (fun hlt => ?_) (fun hlt => ?_)
            · skip
              have hi : i < dm a := by omega
              refine wpSkip ?_
              refine hF25 _ _ ?_; clear hF25
              refine wpSeq fun F27 hF27 => ?_
              refine wpBlock ?_
              refine wpSeq fun F28 hF28 => ?_
              refine wpRegion ?_
              refine seqQ rfl rfl (yAssign (v := .int _ _) rfl rfl) ?_
              refine seqNil ?_
              refine hF28 _ _ ?_; clear hF28
              -- loop
              refine wpBlock ?_
              refine wpLoopS [13, 63, 64, 65, 66, 67, 68, 69, 70, 71, 72, 73, 74, 75, 76, 77, 78, 79, 80, 81, 82, 83, 84, 85, 86, 87, 88, 89, 90, 91, 92, 93, 94, 95, 96, 97] (fun j : Nat => [(13, .int .i64 j)]) (fun j H' => j ≤ dm a ∧ ZSt H g4 g11 24 a.N p a.b.length c5 (sJ (dm a) (fun i j K => if mt (dm a) K i j < mt (dm a) L' i j then ful i j else mt (dm a) K i j) i j (sI (dm a) (fun i j K => if mt (dm a) K i j < mt (dm a) L' i j then ful i j else mt (dm a) K i j) i a.b)) H' ∧ Side g8 24 p [.int .i64 b.N, .slice A2 L'.length ca2] A2 L' H') (fun j => dm a - j) 0 ⟨rfl, trivial⟩ ⟨Nat.zero_le _, st1, sd1⟩ ?_
              rintro j K Hj ⟨hj, st2, sd2⟩
              clear st1 sd1
              refine wpSeq fun F29 hF29 => ?_
              refine wpSeq fun F30 hF30 => ?_
              refine wpRegion ?_
              refine seqQ rfl rfl (yMove (v := .int _ _) rfl rfl) ?_
              refine seqQ rfl rfl (yMove (v := .int _ _) rfl rfl) ?_
              refine seqQ rfl rfl (yLss rfl rfl rfl) ?_
              refine seqNil ?_
              refine hF30 _ _ ?_; clear hF30
              -- if t65
              refine wpIf rfl (fun hlt2 => ?_) (fun hlt2 => ?_)
              · skip
                have hj : j < dm a := by omega
                have hlen : (sJ (dm a) (fun i j K => if mt (dm a) K i j < mt (dm a) L' i j then ful i j else mt (dm a) K i j) i j (sI (dm a) (fun i j K => if mt (dm a) K i j < mt (dm a) L' i j then ful i j else mt (dm a) K i j) i a.b)).length = dm a * dm a := by rw [sJ_len, sI_len, hal2]
                have hix := idx_lt hi hj
                have hq := st2.at_ hlen hi hj
                obtain ⟨q', eq', hq'⟩ := rdM sd2.rd.rd hll' hi hj
                subst eq'
                refine wpSkip ?_
                refine hF29 _ _ ?_; clear hF29
                refine wpSeq fun F31 hF31 => ?_
                refine wpBlock ?_
                refine wpSeq fun F32 hF32 => ?_
                refine wpRegionD Try_mixed [.q, .q, .q, .q, .q, .q, .q, .q, .q, .q, .q, .q, .q, .q, .q, .q, .q, .q, .q] 18 [0, 1, 0, 0, 12, 0, 60, 127, 255, 0, 512, 0, 0, 6144, 0, 30720, 65024, 130560, 262143] [] (by kernel_rfl) _ rfl [0, 1, 2, 3, 4, 5, 6, 7, 8, 9, 10, 11, 12, 13, 14, 15, 16, 17] rfl (by simp) ?_
                refine lexQ rfl rfl rfl rfl (fun H hM => (yFieldAddr rfl Try.underlying24 rfl Try.sizeOf22 rfl rfl)) ?_
                refine lexQ rfl rfl rfl rfl (fun H hM => (yLoad rfl Try.underlying22 rfl rfl (hM.ext.cell (sd2.b8.cell rfl)))) ?_
                refine lexQ rfl rfl rfl rfl (fun H hM => (yMove (v := .int _ _) rfl rfl)) ?_
                refine lexQ rfl rfl rfl rfl (fun H hM => (yMove (v := .int _ _) rfl rfl)) ?_
                refine lexQ rfl rfl rfl rfl (fun H hM => (yMul rfl rfl rfl (mul_in (by omega) hda.2.2.1))) ?_
                refine lexQ rfl rfl rfl rfl (fun H hM => (yMove (v := .int _ _) rfl rfl)) ?_
                refine lexQ rfl rfl rfl rfl (fun H hM => (yAdd rfl rfl rfl (add_in (by omega) hda.2.2.1 (by omega)))) ?_
                refine lexQ rfl rfl rfl rfl (fun H hM => (yIdx1 rfl Try.underlying22 Try.sizeOf3 rfl rfl idx_e (by rw [hll']; exact hix))) ?_
                refine lexQ rfl rfl rfl rfl (fun H hM => (yLoad rfl Try.underlying3 rfl rfl (hM.ext.cell hq'))) ?_
                refine lexQ rfl rfl rfl rfl (fun H hM => (yFieldAddr rfl Try.underlying24 rfl Try.sizeOf22 rfl rfl)) ?_
                refine lexQ rfl rfl rfl rfl (fun H hM => (yLoad rfl Try.underlying22 rfl rfl (hM.ext.cell (st2.b5.cell rfl)))) ?_
                refine lexQ rfl rfl rfl rfl (fun H hM => (yMove (v := .int _ _) rfl rfl)) ?_
                refine lexQ rfl rfl rfl rfl (fun H hM => (yMove (v := .int _ _) rfl rfl)) ?_
                refine lexQ rfl rfl rfl rfl (fun H hM => (yMul rfl rfl rfl (mul_in (by omega) hda.2.2.1))) ?_
                refine lexQ rfl rfl rfl rfl (fun H hM => (yMove (v := .int _ _) rfl rfl)) ?_
                refine lexQ rfl rfl rfl rfl (fun H hM => (yAdd rfl rfl rfl (add_in (by omega) hda.2.2.1 (by omega)))) ?_
                refine lexQ rfl rfl rfl rfl (fun H hM => (yIdx1 rfl Try.underlying22 Try.sizeOf3 rfl rfl idx_e (by rw [hal2]; exact hix))) ?_
                refine lexQ rfl rfl rfl rfl (fun H hM => (yLoad rfl Try.underlying3 rfl rfl (hM.ext.cell hq))) ?_
                -- tail
                refine lexNil0 rfl (fun hM => ?_)
                refine seqQ rfl rfl (yGtr rfl rfl rfl) ?_
                refine seqNil ?_
                refine hF32 _ _ ?_; clear hF32
                -- if t86
                refine wpIf rfl (fun hgt => ?_) (fun hgt => ?_)
                · skip
                  refine wpRegionD Try_mixed [.q, .q, .q, .q, .q, .q, .q, .q, .q, .e, .q, .e] 10 [0, 1, 0, 0, 12, 0, 60, 0, 0, 384, 1023, 2047] [] (by kernel_rfl) _ rfl [0, 1, 2, 3, 4, 5, 6, 7, 8, 9] rfl (by simp) ?_
                  refine lexQ rfl rfl rfl rfl (fun H hM => (yFieldAddr rfl Try.underlying24 rfl Try.sizeOf22 rfl rfl)) ?_
                  refine lexQ rfl rfl rfl rfl (fun H hM => (yLoad rfl Try.underlying22 rfl rfl (hM.ext.cell (st2.b5.cell rfl)))) ?_
                  refine lexQ rfl rfl rfl rfl (fun H hM => (yMove (v := .int _ _) rfl rfl)) ?_
                  refine lexQ rfl rfl rfl rfl (fun H hM => (yMove (v := .int _ _) rfl rfl)) ?_
                  refine lexQ rfl rfl rfl rfl (fun H hM => (yMul rfl rfl rfl (mul_in (by omega) hda.2.2.1))) ?_
                  refine lexQ rfl rfl rfl rfl (fun H hM => (yMove (v := .int _ _) rfl rfl)) ?_
                  refine lexQ rfl rfl rfl rfl (fun H hM => (yAdd rfl rfl rfl (add_in (by omega) hda.2.2.1 (by omega)))) ?_
                  refine lexQ rfl rfl rfl rfl (fun H hM => (yMove (v := .int _ _) rfl rfl)) ?_
                  refine lexQ rfl rfl rfl rfl (fun H hM => (yMove (v := .int _ _) rfl rfl)) ?_
                  -- e slot 96: call F43<farandole/farandoleref13.full> t94 t95
                  refine lexX0 rfl rfl rfl rfl rfl (by simp) (fun hM96 => stepCall rfl Try.call43 rfl ?_)
                  refine (rfull_c i j _).mono ?_
                  rintro w _ ⟨rfl, ee⟩
                  obtain rfl := ee.symm
                  clear ee
                  refine ⟨Ext.refl _, fun _ => ?_⟩
                  -- tail
                  refine lexNil0 rfl (fun hM => ?_)
                  refine seqQ rfl rfl (yIdx1 rfl Try.underlying22 Try.sizeOf3 rfl rfl idx_e (by rw [hal2]; exact hix)) ?_
                  -- e slot None: store T3 t97 t96
                  refine seqE0 rfl rfl (stepStoreOwn st2.own rfl Try.sizeOf3 rfl rfl rfl rfl (by rw [hlen]; exact hix) ?_)
                  intro H5 hown5 hK5
                  refine seqNil ?_
                  refine hF31 _ _ ?_; clear hF31
                  refine wpRegion ?_
                  refine seqQ rfl rfl (yMove (v := .int _ _) rfl rfl) ?_
                  refine seqQ rfl rfl (yAdd rfl rfl rfl (by unfold In64; omega)) ?_
                  refine seqQ rfl rfl (yAssign (v := .int _ _) rfl rfl) ?_
                  refine seqNil ?_
                  -- end loop
                  refine loopEnd (j + 1) (by repeat (first | (with_reducible exact Agree.refl _ _) | refine Agree.upd ?_ rfl | refine Agree.over ?_ rfl)) (by omega) ⟨rfl, trivial⟩ ⟨hj, ?_, sd2.store hK5⟩
                  have := st2.store hown5 hK5
                  show ZSt _ _ _ _ _ _ _ _ (List.set _ _ (if _ then _ else _)) _
                  rw [if_pos hgt]
                  exact this
                · skip
                  refine wpSkip ?_
                  refine hF31 _ _ ?_; clear hF31
                  refine wpRegion ?_
                  refine seqQ rfl rfl (yMove (v := .int _ _) rfl rfl) ?_
                  refine seqQ rfl rfl (yAdd rfl rfl rfl (by unfold In64; omega)) ?_
                  refine seqQ rfl rfl (yAssign (v := .int _ _) rfl rfl) ?_
                  refine seqNil ?_
                  -- end loop
                  refine loopEnd (j + 1) (by repeat (first | (with_reducible exact Agree.refl _ _) | refine Agree.upd ?_ rfl | refine Agree.over ?_ rfl)) (by omega) ⟨rfl, trivial⟩ ⟨hj, ?_, sd2⟩
                  show ZSt _ _ _ _ _ _ _ _ (List.set _ _ (if _ then _ else _)) _
                  rw [if_neg hgt]
                  have e : ∀ (K : List Int), K.length = dm a * dm a → K.set (i * dm a + j) (mt (dm a) K i j) = K := fun K hK => by
                    unfold mt
                    rw [getD_of (by omega), List.set_getElem_self]
                  rw [e _ hlen]
                  exact st2
              · skip
                obtain rfl : j = dm a := by omega
                refine wpExit ?_
                refine hF27 _ _ ?_; clear hF27
                refine wpRegion ?_
                refine seqQ rfl rfl (yMove (v := .int _ _) rfl rfl) ?_
                refine seqQ rfl rfl (yAdd rfl rfl rfl (by unfold In64; omega)) ?_
                refine seqQ rfl rfl (yAssign (v := .int _ _) rfl rfl) ?_
                refine seqNil ?_
                -- end loop
                exact loopEnd (i + 1) (by repeat (first | (with_reducible exact Agree.refl _ _) | refine Agree.upd ?_ rfl | refine Agree.over ?_ rfl)) (by omega) ⟨rfl, trivial⟩ ⟨hi, st2, sd2⟩
            · skip
              have ei : i = dm a := by omega
              rw [ei] at st1
              have hfin : sI (dm a) (fun i j K => if mt (dm a) K i j < mt (dm a) L' i j then ful i j else mt (dm a) K i j) (dm a) a.b = widL (dm a) L' a.b := by
                refine mt_ext (by rw [sI_len, hal2]) (widL_len _ _ _) fun x y hx hy => ?_
                rw [sI_each hal2 (fun i j v => if v < mt (dm a) L' i j then ful i j else v) (fun _ _ _ => rfl) hx hy, widL_mt hx hy]
                split <;> split <;> first | rfl | omega
              rw [hfin] at st1
              refine wpExit ?_
              refine hF23 _ _ ?_; clear hF23
              refine wpSeq fun F33 hF33 => ?_
              refine wpRegion ?_
              refine seqQ rfl rfl (yLoadB st1.b5 rfl Try.underlying24 rfl Try.sizeOf24 rfl) ?_
              -- e slot None: store T24 t4 t98
              refine seqE0 rfl rfl (stepStoreB rfl (by kernel_rfl) rfl rfl rfl st1.b2 rfl ?_)
              intro H7 hB7 hK7
              refine seqQ rfl rfl (yAssign (v := .int _ _) rfl rfl) ?_
              refine seqNil ?_
              refine hF33 _ _ ?_; clear hF33
              -- ret
              refine wpRet (finR2 rfl (resC Try.underlying24 rfl (by kernel_rfl) rfl hB7) (resT (v := .int _ _) rfl) ?_)
              have hd := st1.done hK7
              rw [widZ_11 hb e e']
              refine ⟨hd.1, _, rfl, ?_⟩
              exact ZO.of (N := a.N) hd.2
end Go.Proofs.Ytjkbkmbblidipaa
