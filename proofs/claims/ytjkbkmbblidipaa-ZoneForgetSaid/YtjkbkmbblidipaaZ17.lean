/- Zones: Join (both). -/
import Derived.Test.YtjkbkmbblidipaaZ16
namespace Go.Proofs.Ytjkbkmbblidipaa
open Go.RowKit

set_option maxRecDepth 100000 in
theorem joinZ_no {a b : Zn} (h : ¬ Both a b) : joinZ a b = (zn0, 1) := if_neg h
set_option maxRecDepth 100000 in
theorem joinZ_00 {a b : Zn} (h : Both a b) (ea : closeZ a = (zn0, false)) (eb : closeZ b = (zn0, false)) : joinZ a b = (nothZ a.N, 0) := by unfold joinZ; rw [if_pos h, ea, eb]; rfl
set_option maxRecDepth 100000 in
theorem joinZ_01 {a b : Zn} {L : List Int} (h : Both a b) (ea : closeZ a = (zn0, false)) (eb : closeZ b = (⟨b.N, L⟩, true)) : joinZ a b = (⟨b.N, L⟩, 0) := by unfold joinZ; rw [if_pos h, ea, eb]; rfl
set_option maxRecDepth 100000 in
theorem joinZ_10 {a b : Zn} {L : List Int} (h : Both a b) (ea : closeZ a = (⟨a.N, L⟩, true)) (eb : closeZ b = (zn0, false)) : joinZ a b = (⟨a.N, L⟩, 0) := by unfold joinZ; rw [if_pos h, ea, eb]; rfl
set_option maxRecDepth 100000 in
theorem joinZ_11 {a b : Zn} {L L' : List Int} (h : Both a b) (ea : closeZ a = (⟨a.N, L⟩, true)) (eb : closeZ b = (⟨b.N, L'⟩, true)) : joinZ a b = (⟨a.N, List.zipWith max L L'⟩, 0) := by unfold joinZ; rw [if_pos h, ea, eb]; rfl
set_option maxRecDepth 100000 in
theorem zip_len {L L' : List Int} (h : L.length = L'.length) : (List.zipWith max L L').length = L.length := by rw [List.length_zipWith]; omega
set_option maxRecDepth 100000 in
theorem zip_get {L L' : List Int} {k : Nat} (h : k < L.length) (h' : k < L'.length) : (List.zipWith max L L')[k]'(by rw [List.length_zipWith]; omega) = max L[k] L'[k] := by simp
set_option maxRecDepth 100000 in
theorem ownStore {α : Type} {c : El α} {e : TypeId} {Hc Hg Hs : Heap} {base g : Nat} {v : Value} {l : List α} (h : Own c e Hc base v l) (hxg : Ext Hc Hg) (hg : Hc.size ≤ g) (hK : Keep [g] Hg Hs) : Own c e Hs base v l :=
  (h.ext hxg).keep hK (fun b hb => by have := (h.lt b hb).2; simp; omega)
/-- Another variable and another slice beside the zone in work. -/
structure Side (g8 : Nat) (T : TypeId) (p : Addr) (cs : List Value) (A' : Option Addr) (L' : List Int) (H' : Heap) : Prop where
  b8 : Blk H' g8 cs T
  rd : RdM eInt [p.block] H' A' L'
  n8 : g8 ≠ p.block
set_option maxRecDepth 100000 in
theorem Side.store {g8 : Nat} {T : TypeId} {p : Addr} {cs : List Value} {A' : Option Addr} {L' : List Int} {H' H'' : Heap} (h : Side g8 T p cs A' L' H') (hK : Keep [p.block] H' H'') : Side g8 T p cs A' L' H'' :=
  ⟨h.b8.keep hK (by simpa using h.n8), h.rd.tr (Tr.store hK (by simp)), h.n8⟩
set_option maxRecDepth 100000 in
theorem join_c (a b : Zn) (A B : Option Addr) (ca cb : Nat) (H : Heap) (hA : Rd eInt H A a.b) (hB : Rd eInt H B b.b) (h8 : a.N ≤ 8) :
    CallsH Try.prog 37 [.agg (znC a A ca).toArray, .agg (znC b B cb).toArray] H fun v H' => Ext H H' ∧ ∃ u, v = .tuple #[u, .int .i64 (joinZ a b).2] ∧ ZO H' H.size u (joinZ a b).1 := by
  refine callsH_of Try.func37 rfl Try.ntmps37 (Nat.le_of_ble_eq_true rfl) ?_
  refine wpSeq fun F1 hF1 => ?_
  refine wpRegion ?_
  refine seqN rfl rfl (nBoxA rfl rfl) (fun g2 H2 hx2 hB2 hg2 hl2 => ?_)
  refine seqN rfl rfl (nBoxA rfl rfl) (fun g3 H3 hx3 hB3 hg3 hl3 => ?_)
  refine seqN rfl rfl (nAlloc rfl Try.zeroValue27 rfl) (fun g4 H4 hx4 hB4 hg4 hl4 => ?_)
  refine seqQ rfl rfl (yAssign (v := .int _ _) rfl rfl) ?_
  refine seqNil ?_
  refine hF1 _ _ ?_; clear hF1
  refine wpSeq fun F2 hF2 => ?_
  refine wpSeq fun F3 hF3 => ?_
  refine wpRegion ?_
  refine seqQ rfl rfl (yLoadB ((hB2.ext hx3).ext hx4) rfl Try.underlying27 rfl Try.sizeOf27 rfl) ?_
  -- e slot 12: call F27<farandole/zone.Valid> t11
  refine seqE rfl rfl (stepCall rfl Try.call27 rfl ?_)
  refine (zvalid_c a A ca _ (((hA.ext hx2).ext hx3).ext hx4)).mono ?_
  rintro v H5 ⟨rfl, hx5⟩
  have hE := ((hx2.trans hx3).trans hx4).trans hx5
  have q4 : H.size ≤ g4 := by have := hx2.size; have := hx3.size; omega
  replace hB2 := ((hB2.ext hx3).ext hx4).ext hx5
  replace hB3 := (hB3.ext hx4).ext hx5
  replace hB4 := hB4.ext hx5
  clear hx2 hx3 hx4 hx5
  refine seqQ rfl rfl (yNot rfl rfl) ?_
  -- guard t14
  refine seqGB rfl rfl rfl rfl (fun hv => ?_) (fun hv => ?_)
  · skip
    have hv : ¬ ValZ a := by simpa using hv
    refine seqU rfl rfl ?_
    refine seqU rfl rfl ?_
    refine seqU rfl rfl ?_
    refine seqQ rfl rfl (yPickT (v := .bool _) rfl rfl rfl) ?_
    refine seqQ rfl rfl (yMove (v := .bool true) rfl rfl) ?_
    refine seqU rfl rfl ?_
    refine seqU rfl rfl ?_
    refine seqU rfl rfl ?_
    refine seqU rfl rfl ?_
    refine seqU rfl rfl ?_
    refine seqQ rfl rfl (yPickT (v := .bool _) rfl rfl rfl) ?_
    refine seqNil ?_
    refine hF3 _ _ ?_; clear hF3
    -- if t25
    refine wpT rfl ?_
    refine wpSeq fun F4 hF4 => ?_
    refine wpRegion ?_
    refine seqQ rfl rfl (yBuild (pl := [(0, 1), (1, 1)]) (vs := []) rfl Try.underlying27 Try.zeroValue27 rfl (by unfold Places; kernel_rfl) rfl rfl) ?_
    -- e slot None: store T27 t4 t26
    refine seqE0 rfl rfl (stepStoreB rfl (by kernel_rfl) rfl rfl rfl hB4 rfl ?_)
    intro H6 hB6 hK6
    refine seqQ rfl rfl (yAssign (v := .int _ _) rfl rfl) ?_
    refine seqNil ?_
    refine hF4 _ _ ?_; clear hF4
    -- ret
    refine wpRet (finR2 rfl (resC Try.underlying27 rfl (by kernel_rfl) rfl hB6) (resT (v := .int _ _) rfl) ?_)
    rw [joinZ_no (fun h => hv h.1)]
    exact ⟨hE.mine hK6 (by simp; omega), _, rfl, ZO.zero _ _⟩
  · skip
    have hv : ValZ a := by simpa using hv
    refine seqQ rfl rfl (yLoadB hB3 rfl Try.underlying27 rfl Try.sizeOf27 rfl) ?_
    -- e slot 16: call F27<farandole/zone.Valid> t15
    refine seqE rfl rfl (stepCall rfl Try.call27 rfl ?_)
    refine (zvalid_c b B cb _ (hB.ext hE)).mono ?_
    rintro v H5 ⟨rfl, hx5⟩
    replace hE := hE.trans hx5
    replace hB2 := hB2.ext hx5
    replace hB3 := hB3.ext hx5
    replace hB4 := hB4.ext hx5
    clear hx5
    refine seqQ rfl rfl (yNot rfl rfl) ?_
    refine seqQ rfl rfl (yPickF (v := .bool _) rfl rfl rfl) ?_
    -- guard t19
    refine seqGB rfl rfl rfl rfl (fun hw => ?_) (fun hw => ?_)
    · skip
      have hw : ¬ ValZ b := by simpa using hw
      refine seqU rfl rfl ?_
      refine seqU rfl rfl ?_
      refine seqU rfl rfl ?_
      refine seqU rfl rfl ?_
      refine seqU rfl rfl ?_
      refine seqQ rfl rfl (yPickT (v := .bool _) rfl rfl rfl) ?_
      refine seqNil ?_
      refine hF3 _ _ ?_; clear hF3
      -- if t25
      refine wpT rfl ?_
      refine wpSeq fun F5 hF5 => ?_
      refine wpRegion ?_
      refine seqQ rfl rfl (yBuild (pl := [(0, 1), (1, 1)]) (vs := []) rfl Try.underlying27 Try.zeroValue27 rfl (by unfold Places; kernel_rfl) rfl rfl) ?_
      -- e slot None: store T27 t4 t26
      refine seqE0 rfl rfl (stepStoreB rfl (by kernel_rfl) rfl rfl rfl hB4 rfl ?_)
      intro H6 hB6 hK6
      refine seqQ rfl rfl (yAssign (v := .int _ _) rfl rfl) ?_
      refine seqNil ?_
      refine hF5 _ _ ?_; clear hF5
      -- ret
      refine wpRet (finR2 rfl (resC Try.underlying27 rfl (by kernel_rfl) rfl hB6) (resT (v := .int _ _) rfl) ?_)
      rw [joinZ_no (fun h => hw h.2.1)]
      exact ⟨hE.mine hK6 (by simp; omega), _, rfl, ZO.zero _ _⟩
    · skip
      have hw : ValZ b := by simpa using hw
      refine seqQ rfl rfl (yFieldAddr rfl Try.underlying27 rfl Try.sizeOf3 rfl rfl) ?_
      refine seqQ rfl rfl (yLoad rfl Try.underlying3 rfl rfl (hB2.cell rfl)) ?_
      refine seqQ rfl rfl (yFieldAddr rfl Try.underlying27 rfl Try.sizeOf3 rfl rfl) ?_
      refine seqQ rfl rfl (yLoad rfl Try.underlying3 rfl rfl (hB3.cell rfl)) ?_
      refine seqQ rfl rfl (yNeq rfl rfl rfl) ?_
      refine seqQ rfl rfl (yPickF (v := .bool _) rfl rfl rfl) ?_
      refine seqNil ?_
      refine hF3 _ _ ?_; clear hF3
      -- if t25
      refine wpCond rfl (fun hn => ?_) (fun hn => ?_)
      · skip
        have hn : ¬ a.N = b.N := by simpa using hn
        refine wpSeq fun F6 hF6 => ?_
        refine wpRegion ?_
        refine seqQ rfl rfl (yBuild (pl := [(0, 1), (1, 1)]) (vs := []) rfl Try.underlying27 Try.zeroValue27 rfl (by unfold Places; kernel_rfl) rfl rfl) ?_
        -- e slot None: store T27 t4 t26
        refine seqE0 rfl rfl (stepStoreB rfl (by kernel_rfl) rfl rfl rfl hB4 rfl ?_)
        intro H6 hB6 hK6
        refine seqQ rfl rfl (yAssign (v := .int _ _) rfl rfl) ?_
        refine seqNil ?_
        refine hF6 _ _ ?_; clear hF6
        -- ret
        refine wpRet (finR2 rfl (resC Try.underlying27 rfl (by kernel_rfl) rfl hB6) (resT (v := .int _ _) rfl) ?_)
        rw [joinZ_no (fun h => hn h.2.2)]
        exact ⟨hE.mine hK6 (by simp; omega), _, rfl, ZO.zero _ _⟩
      · skip
        have hn : a.N = b.N := by simpa using hn
        have hb : Both a b := ⟨hv, hw, hn⟩
        have hda := hv.dim
        have hdb := hw.dim
        rw [← hb.dm] at hdb
        have sE := hE.size
        have l4 := hB4.lt
        refine wpSkip ?_
        refine hF2 _ _ ?_; clear hF2
        refine wpSeq fun F7 hF7 => ?_
        refine wpRegion ?_
        refine seqQ rfl rfl (yLoadB hB2 rfl Try.underlying27 rfl Try.sizeOf27 rfl) ?_
        -- e slot 29: call F14<farandole/zone.Close> t28
        refine seqE rfl rfl (stepCall rfl Try.call14 rfl ?_)
        have hc := close_c a A ca _ (hA.ext hE) h8
        rcases closeZ_cases a with ⟨e, _⟩ | ⟨L, e, -, hL⟩
        · skip
          rw [e] at hc
          refine hc.mono ?_
          rintro v Hc ⟨hxc, u, rfl, A', ca', rfl, ho⟩
          refine seqQ rfl rfl (yMove (v := .tuple _) rfl rfl) ?_
          refine seqQ rfl rfl (yExtract (v := .agg _) rfl rfl rfl) ?_
          refine seqQ rfl rfl (yExtract (v := .bool _) rfl rfl rfl) ?_
          refine seqN rfl rfl (nAlloc rfl Try.zeroValue27 rfl) (fun g6 H6 hx6 hB6 hg6 hl6 => ?_)
          -- e slot None: store T27 t6 t30
          refine seqE0 rfl rfl (stepStoreB rfl (by kernel_rfl) rfl rfl rfl hB6 rfl ?_)
          intro H7 hB7 hK7
          have x7 := afterStore hxc hx6 hg6 hK7
          replace hE := hE.trans x7
          replace hB2 := hB2.ext x7
          replace hB3 := hB3.ext x7
          replace hB4 := hB4.ext x7
          clear hxc hx6 hK7 x7 ho hc hB6
          refine seqQ rfl rfl (yAssign (v := .bool _) rfl rfl) ?_
          refine seqNil ?_
          refine hF7 _ _ ?_; clear hF7
          refine wpSeq fun F8 hF8 => ?_
          refine wpRegion ?_
          refine seqQ rfl rfl (yLoadB hB3 rfl Try.underlying27 rfl Try.sizeOf27 rfl) ?_
          -- e slot 34: call F14<farandole/zone.Close> t33
          refine seqE rfl rfl (stepCall rfl Try.call14 rfl ?_)
          have hc := close_c b B cb _ (hB.ext hE) (by omega)
          rcases closeZ_cases b with ⟨e', _⟩ | ⟨L', e', -, hL'⟩
          · skip
            rw [e'] at hc
            refine hc.mono ?_
            rintro v Hd ⟨hxd, u, rfl, A', ca', rfl, ho⟩
            refine seqQ rfl rfl (yMove (v := .tuple _) rfl rfl) ?_
            refine seqQ rfl rfl (yExtract (v := .agg _) rfl rfl rfl) ?_
            refine seqQ rfl rfl (yExtract (v := .bool _) rfl rfl rfl) ?_
            refine seqN rfl rfl (nAlloc rfl Try.zeroValue27 rfl) (fun g8 H8 hx8 hB8 hg8 hl8 => ?_)
            -- e slot None: store T27 t8 t35
            refine seqE0 rfl rfl (stepStoreB rfl (by kernel_rfl) rfl rfl rfl hB8 rfl ?_)
            intro H9 hB9 hK9
            have x9 := afterStore hxd hx8 hg8 hK9
            replace hE := hE.trans x9
            replace hB2 := hB2.ext x9
            replace hB4 := hB4.ext x9
            refine seqQ rfl rfl (yAssign (v := .bool _) rfl rfl) ?_
            refine seqNil ?_
            refine hF8 _ _ ?_; clear hF8
            refine wpSeq fun F9 hF9 => ?_
            refine wpBlock ?_
            refine wpSeq fun F10 hF10 => ?_
            refine wpRegion ?_
            refine seqQ rfl rfl (yMove (v := .bool _) rfl rfl) ?_
            refine seqQ rfl rfl (yNot rfl rfl) ?_
            refine seqQ rfl rfl (yMove (v := .bool true) rfl rfl) ?_
            refine seqQ rfl rfl (yMove (v := .bool _) rfl rfl) ?_
            refine seqQ rfl rfl (yNot rfl rfl) ?_
            refine seqQ rfl rfl (yPickT (v := .bool _) rfl rfl rfl) ?_
            refine seqQ rfl rfl (yAssign (v := .bool _) rfl rfl) ?_
            refine seqNil ?_
            refine hF10 _ _ ?_; clear hF10
            -- if t37
            refine wpT rfl ?_
            refine wpSeq fun F11 hF11 => ?_
            refine wpRegion ?_
            refine seqQ rfl rfl (yFieldAddr rfl Try.underlying27 rfl Try.sizeOf3 rfl rfl) ?_
            refine seqQ rfl rfl (yLoad rfl Try.underlying3 rfl rfl (hB2.cell rfl)) ?_
            -- e slot 46: call F52<farandole/zone.nothing> t45
            refine seqE rfl rfl (stepCall rfl Try.call52 rfl ?_)
            refine (nothing_c a.N _ (by omega) (by omega)).mono ?_
            rintro v Hn ⟨hxn, An, cn, rfl, hon⟩
            -- e slot None: store T27 t4 t46
            refine seqE0 rfl rfl (stepStoreB rfl (by kernel_rfl) rfl rfl rfl (hB4.ext hxn) rfl ?_)
            intro Hm hBm hKm
            refine seqQ rfl rfl (yAssign (v := .int _ _) rfl rfl) ?_
            refine seqNil ?_
            refine hF11 _ _ ?_; clear hF11
            -- ret
            refine wpRet (finR2 rfl (resC Try.underlying27 rfl (by kernel_rfl) rfl hBm) (resT (v := .int _ _) rfl) ?_)
            rw [joinZ_00 hb e e']
            refine ⟨(hE.trans hxn).mine hKm (by simp; omega), _, rfl, ?_⟩
            have sE2 := hE.size
            have l9 := hB4.lt
            exact (ZO.keep ⟨An, cn, rfl, hon⟩ hKm l9).fresh sE2
          · skip
            rw [e'] at hc
            refine hc.mono ?_
            rintro v Hd ⟨hxd, u, rfl, A', ca', rfl, ho⟩
            have s8 := hE.size
            have l8 := hB4.lt
            refine seqQ rfl rfl (yMove (v := .tuple _) rfl rfl) ?_
            refine seqQ rfl rfl (yExtract (v := .agg _) rfl rfl rfl) ?_
            refine seqQ rfl rfl (yExtract (v := .bool _) rfl rfl rfl) ?_
            refine seqN rfl rfl (nAlloc rfl Try.zeroValue27 rfl) (fun g8 H8 hx8 hB8 hg8 hl8 => ?_)
            -- e slot None: store T27 t8 t35
            refine seqE0 rfl rfl (stepStoreB rfl (by kernel_rfl) rfl rfl rfl hB8 rfl ?_)
            intro H9 hB9 hK9
            have x9 := afterStore hxd hx8 hg8 hK9
            have ho9 := ownStore ho hx8 hg8 hK9
            replace hE := hE.trans x9
            replace hB4 := hB4.ext x9
            refine seqQ rfl rfl (yAssign (v := .bool _) rfl rfl) ?_
            refine seqNil ?_
            refine hF8 _ _ ?_; clear hF8
            refine wpSeq fun F12 hF12 => ?_
            refine wpBlock ?_
            refine wpSeq fun F13 hF13 => ?_
            refine wpRegion ?_
            refine seqQ rfl rfl (yMove (v := .bool _) rfl rfl) ?_
            refine seqQ rfl rfl (yNot rfl rfl) ?_
            refine seqQ rfl rfl (yMove (v := .bool true) rfl rfl) ?_
            refine seqQ rfl rfl (yMove (v := .bool _) rfl rfl) ?_
            refine seqQ rfl rfl (yNot rfl rfl) ?_
            refine seqQ rfl rfl (yPickT (v := .bool _) rfl rfl rfl) ?_
            refine seqQ rfl rfl (yAssign (v := .bool _) rfl rfl) ?_
            refine seqNil ?_
            refine hF13 _ _ ?_; clear hF13
            -- if t37
            refine wpF rfl ?_
            refine wpSeq fun F14 hF14 => ?_
            refine wpRegion ?_
            refine seqQ rfl rfl (yMove (v := .bool _) rfl rfl) ?_
            refine seqQ rfl rfl (yNot rfl rfl) ?_
            refine seqQ rfl rfl (yAssign (v := .bool _) rfl rfl) ?_
            refine seqNil ?_
            refine hF14 _ _ ?_; clear hF14
            -- if t47
            refine wpT rfl ?_
            refine wpSeq fun F15 hF15 => ?_
            refine wpRegion ?_
            refine seqQ rfl rfl (yLoadB hB9 rfl Try.underlying27 rfl Try.sizeOf27 rfl) ?_
            -- e slot None: store T27 t4 t50
            refine seqE0 rfl rfl (stepStoreB rfl (by kernel_rfl) rfl rfl rfl hB4 rfl ?_)
            intro Hm hBm hKm
            refine seqQ rfl rfl (yAssign (v := .int _ _) rfl rfl) ?_
            refine seqNil ?_
            refine hF15 _ _ ?_; clear hF15
            -- ret
            refine wpRet (finR2 rfl (resC Try.underlying27 rfl (by kernel_rfl) rfl hBm) (resT (v := .int _ _) rfl) ?_)
            rw [joinZ_01 hb e e']
            refine ⟨hE.mine hKm (by simp; omega), _, rfl, ?_⟩
            exact (ZO.keep ⟨A', ca', rfl, ho9⟩ hKm l8).fresh s8
        · skip
          rw [e] at hc
          refine hc.mono ?_
          rintro v Hc ⟨hxc, u, rfl, A', ca', rfl, ho⟩
          refine seqQ rfl rfl (yMove (v := .tuple _) rfl rfl) ?_
          refine seqQ rfl rfl (yExtract (v := .agg _) rfl rfl rfl) ?_
          refine seqQ rfl rfl (yExtract (v := .bool _) rfl rfl rfl) ?_
          refine seqN rfl rfl (nAlloc rfl Try.zeroValue27 rfl) (fun g6 H6 hx6 hB6 hg6 hl6 => ?_)
          -- e slot None: store T27 t6 t30
          refine seqE0 rfl rfl (stepStoreB rfl (by kernel_rfl) rfl rfl rfl hB6 rfl ?_)
          intro H7 hB7 hK7
          have x7 := afterStore hxc hx6 hg6 hK7
          have ho7 := ownStore ho hx6 hg6 hK7
          have s6 := hxc.size
          have l6 : g6 < H7.size := hB7.lt
          have o6 : ∀ b, (Value.slice A' L.length ca').ownBlock = some b → b ≠ g6 ∧ b ≠ g4 := fun b hb => by have := ho.lt b hb; omega
          replace hE := hE.trans x7
          replace hB3 := hB3.ext x7
          replace hB4 := hB4.ext x7
          clear hxc hx6 hK7 x7 hc hB6 hB2
          have s7 := hE.size
          have hll := hL.len
          have hl625 : L.length ≤ 625 := by rw [hll]; exact mul25 hda.2.2.1 hda.2.2.1
          have hl0 : 0 < L.length := by rw [hll]; exact Nat.mul_pos hda.2.1 hda.2.1
          refine seqQ rfl rfl (yAssign (v := .bool _) rfl rfl) ?_
          refine seqNil ?_
          refine hF7 _ _ ?_; clear hF7
          refine wpSeq fun F16 hF16 => ?_
          refine wpRegion ?_
          refine seqQ rfl rfl (yLoadB hB3 rfl Try.underlying27 rfl Try.sizeOf27 rfl) ?_
          -- e slot 34: call F14<farandole/zone.Close> t33
          refine seqE rfl rfl (stepCall rfl Try.call14 rfl ?_)
          have hc := close_c b B cb _ (hB.ext hE) (by omega)
          rcases closeZ_cases b with ⟨e', _⟩ | ⟨L', e', -, hL'⟩
          · skip
            rw [e'] at hc
            refine hc.mono ?_
            rintro v Hd ⟨hxd, u, rfl, A2, ca2, rfl, ho2⟩
            refine seqQ rfl rfl (yMove (v := .tuple _) rfl rfl) ?_
            refine seqQ rfl rfl (yExtract (v := .agg _) rfl rfl rfl) ?_
            refine seqQ rfl rfl (yExtract (v := .bool _) rfl rfl rfl) ?_
            refine seqN rfl rfl (nAlloc rfl Try.zeroValue27 rfl) (fun g8 H8 hx8 hB8 hg8 hl8 => ?_)
            -- e slot None: store T27 t8 t35
            refine seqE0 rfl rfl (stepStoreB rfl (by kernel_rfl) rfl rfl rfl hB8 rfl ?_)
            intro H9 hB9 hK9
            have x9 := afterStore hxd hx8 hg8 hK9
            replace hE := hE.trans x9
            replace hB4 := hB4.ext x9
            replace hB7 := hB7.ext x9
            refine seqQ rfl rfl (yAssign (v := .bool _) rfl rfl) ?_
            refine seqNil ?_
            refine hF16 _ _ ?_; clear hF16
            refine wpSeq fun F17 hF17 => ?_
            refine wpBlock ?_
            refine wpSeq fun F18 hF18 => ?_
            refine wpRegion ?_
            refine seqQ rfl rfl (yMove (v := .bool _) rfl rfl) ?_
            refine seqQ rfl rfl (yNot rfl rfl) ?_
            refine seqQ rfl rfl (yMove (v := .bool false) rfl rfl) ?_
            refine seqU rfl rfl ?_
            refine seqU rfl rfl ?_
            refine seqQ rfl rfl (yPickF (v := .bool _) rfl rfl rfl) ?_
            refine seqQ rfl rfl (yAssign (v := .bool _) rfl rfl) ?_
            refine seqNil ?_
            refine hF18 _ _ ?_; clear hF18
            -- if t37
            refine wpF rfl ?_
            refine wpSeq fun F19 hF19 => ?_
            refine wpRegion ?_
            refine seqQ rfl rfl (yMove (v := .bool _) rfl rfl) ?_
            refine seqQ rfl rfl (yNot rfl rfl) ?_
            refine seqQ rfl rfl (yAssign (v := .bool _) rfl rfl) ?_
            refine seqNil ?_
            refine hF19 _ _ ?_; clear hF19
            -- if t47
            refine wpF rfl ?_
            refine wpSeq fun F20 hF20 => ?_
            refine wpRegion ?_
            refine seqQ rfl rfl (yMove (v := .bool _) rfl rfl) ?_
            refine seqQ rfl rfl (yNot rfl rfl) ?_
            refine seqQ rfl rfl (yAssign (v := .bool _) rfl rfl) ?_
            refine seqNil ?_
            refine hF20 _ _ ?_; clear hF20
            -- if t51
            refine wpT rfl ?_
            refine wpSeq fun F21 hF21 => ?_
            refine wpRegion ?_
            refine seqQ rfl rfl (yLoadB hB7 rfl Try.underlying27 rfl Try.sizeOf27 rfl) ?_
            -- e slot None: store T27 t4 t54
            refine seqE0 rfl rfl (stepStoreB rfl (by kernel_rfl) rfl rfl rfl hB4 rfl ?_)
            intro Hm hBm hKm
            refine seqQ rfl rfl (yAssign (v := .int _ _) rfl rfl) ?_
            refine seqNil ?_
            refine hF21 _ _ ?_; clear hF21
            -- ret
            refine wpRet (finR2 rfl (resC Try.underlying27 rfl (by kernel_rfl) rfl hBm) (resT (v := .int _ _) rfl) ?_)
            rw [joinZ_10 hb e e']
            refine ⟨hE.mine hKm (by simp; omega), _, rfl, ?_⟩
            exact (ZO.keep ⟨A', ca', rfl, ho7.ext x9⟩ hKm (by omega)).fresh sE
          · skip
            rw [e'] at hc
            refine hc.mono ?_
            rintro v Hd ⟨hxd, u, rfl, A2, ca2, rfl, ho2⟩
            have r2 := (Own.rd ho2).2
            refine seqQ rfl rfl (yMove (v := .tuple _) rfl rfl) ?_
            refine seqQ rfl rfl (yExtract (v := .agg _) rfl rfl rfl) ?_
            refine seqQ rfl rfl (yExtract (v := .bool _) rfl rfl rfl) ?_
            refine seqN rfl rfl (nAlloc rfl Try.zeroValue27 rfl) (fun g8 H8 hx8 hB8 hg8 hl8 => ?_)
            -- e slot None: store T27 t8 t35
            refine seqE0 rfl rfl (stepStoreB rfl (by kernel_rfl) rfl rfl rfl hB8 rfl ?_)
            intro H9 hB9 hK9
            have x9 := afterStore hxd hx8 hg8 hK9
            have s8 := hxd.size
            replace hE := hE.trans x9
            replace hB4 := hB4.ext x9
            replace hB7 := hB7.ext x9
            replace ho7 := ho7.ext x9
            have hll' := hL'.len
            rw [← hb.dm] at hll'
            obtain ⟨p, rfl, hp0⟩ := (Own.rd ho7).2.at1 hl0
            have hpb := ho.lt p.block rfl
            have op := o6 p.block rfl
            have st : ZSt H g4 g6 27 a.N p L.length ca' L H9 := ⟨hE, ho7.mono (by omega), hB4, hB7, fun h => op.2 h.symm, fun h => op.1 h.symm, by omega, q4⟩
            have sd : Side g8 27 p [.int .i64 b.N, .slice A2 L'.length ca2] A2 L' H9 := ⟨hB9, RdM.of (rdStore r2 hx8 hg8 hK9) (by intro q eq; subst eq; have := (ho2.lt q.block rfl).1; have := hpb.2; simp; omega), by have := hpb.2; omega⟩
            clear hxd hx8 hK9 x9 ho2 hc hB8 hB9 hB4 hB7 ho7 r2 ho hp0
            have hj : (List.zipWith max L L').length = L.length := zip_len (by omega)
            refine seqQ rfl rfl (yAssign (v := .bool _) rfl rfl) ?_
            refine seqNil ?_
            refine hF16 _ _ ?_; clear hF16
            refine wpSeq fun F22 hF22 => ?_
            refine wpBlock ?_
            refine wpSeq fun F23 hF23 => ?_
            refine wpRegion ?_
            refine seqQ rfl rfl (yMove (v := .bool _) rfl rfl) ?_
            refine seqQ rfl rfl (yNot rfl rfl) ?_
            refine seqQ rfl rfl (yMove (v := .bool false) rfl rfl) ?_
            refine seqU rfl rfl ?_
            refine seqU rfl rfl ?_
            refine seqQ rfl rfl (yPickF (v := .bool _) rfl rfl rfl) ?_
            refine seqQ rfl rfl (yAssign (v := .bool _) rfl rfl) ?_
            refine seqNil ?_
            refine hF23 _ _ ?_; clear hF23
            -- if t37
            refine wpF rfl ?_
            refine wpSeq fun F24 hF24 => ?_
            refine wpRegion ?_
            refine seqQ rfl rfl (yMove (v := .bool _) rfl rfl) ?_
            refine seqQ rfl rfl (yNot rfl rfl) ?_
            refine seqQ rfl rfl (yAssign (v := .bool _) rfl rfl) ?_
            refine seqNil ?_
            refine hF24 _ _ ?_; clear hF24
            -- if t47
            refine wpF rfl ?_
            refine wpSeq fun F25 hF25 => ?_
            refine wpRegion ?_
            refine seqQ rfl rfl (yMove (v := .bool _) rfl rfl) ?_
            refine seqQ rfl rfl (yNot rfl rfl) ?_
            refine seqQ rfl rfl (yAssign (v := .bool _) rfl rfl) ?_
            refine seqNil ?_
            refine hF25 _ _ ?_; clear hF25
            -- if t51
            refine wpF rfl ?_
            refine wpSkip ?_
            refine hF22 _ _ ?_; clear hF22
            refine wpSeq fun F26 hF26 => ?_
            refine wpSeq fun F27 hF27 => ?_
            refine wpRegion ?_
            refine seqQ rfl rfl (yFieldAddr rfl Try.underlying27 rfl Try.sizeOf22 rfl rfl) ?_
            refine seqQ rfl rfl (yLoad rfl Try.underlying22 rfl rfl (st.b5.cell rfl)) ?_
            refine seqQ rfl rfl (yLen rfl Try.underlying22 rfl) ?_
            refine seqQ rfl rfl (yMove (v := .int _ _) rfl rfl) ?_
            refine seqNil ?_
            refine hF27 _ _ ?_; clear hF27
            -- loop
            refine wpBlock ?_
            refine wpLoopS [10, 58, 59, 60, 61, 62, 63, 64, 65, 66, 67, 68, 69, 70, 71, 72, 73, 74, 75, 76] (fun k : Nat => [(58, .int .i64 k)]) (fun k H' => k ≤ L.length ∧ ZSt H g4 g6 27 a.N p L.length ca' ((List.zipWith max L L').take k ++ L.drop k) H' ∧ Side g8 27 p [.int .i64 b.N, .slice A2 L'.length ca2] A2 L' H') (fun k => L.length - k) 0 ⟨rfl, trivial⟩ ⟨Nat.zero_le _, by simpa using st, sd⟩ ?_
            rintro k J Hk ⟨hk, st1, sd1⟩
            clear st sd
            refine wpSeq fun F28 hF28 => ?_
            refine wpRegion ?_
            refine seqQ rfl rfl (yLss rfl rfl rfl) ?_
            refine seqNil ?_
            refine hF28 _ _ ?_; clear hF28
            refine wpSeq fun F29 hF29 => ?_
            -- if t59
            refine wpIf rfl (fun hlt => ?_) (fun hlt => ?_)
            · skip
              have hk : k < L.length := by omega
              have hk' : k < L'.length := by omega
              have hlen := td_len (k := k) hj (by omega)
              obtain ⟨q, eq, hq⟩ := (Own.rd st1.own).2.at1 (k := k) (by omega)
              rw [td_get hj (by omega)] at hq
              obtain rfl := Option.some.inj eq
              obtain ⟨q', eq', hq'⟩ := sd1.rd.rd.at1 hk'
              subst eq'
              refine wpSkip ?_
              refine hF29 _ _ ?_; clear hF29
              refine wpSeq fun F30 hF30 => ?_
              refine wpBlock ?_
              refine wpSeq fun F31 hF31 => ?_
              refine wpRegion ?_
              refine seqQ rfl rfl (yMove (v := .int _ _) rfl rfl) ?_
              refine seqQ rfl rfl (yAssign (v := .int _ _) rfl rfl) ?_
              refine seqNil ?_
              refine hF31 _ _ ?_; clear hF31
              refine wpRegionD Try_mixed [.q, .q, .q, .q, .q, .q, .q, .q, .q, .q, .q, .q, .q, .q, .q, .e] 14 [0, 1, 0, 0, 8, 0, 56, 120, 0, 256, 0, 1792, 3840, 8184, 16383, 32767] [] (by kernel_rfl) _ rfl [0, 1, 2, 3, 4, 5, 6, 7, 8, 9, 10, 11, 12, 13] rfl (by simp) ?_
              refine lexQ rfl rfl rfl rfl (fun H hM => (yFieldAddr rfl Try.underlying27 rfl Try.sizeOf22 rfl rfl)) ?_
              refine lexQ rfl rfl rfl rfl (fun H hM => (yLoad rfl Try.underlying22 rfl rfl (hM.ext.cell (st1.b5.cell rfl)))) ?_
              refine lexQ rfl rfl rfl rfl (fun H hM => (yMove (v := .int _ _) rfl rfl)) ?_
              refine lexQ rfl rfl rfl rfl (fun H hM => (yFieldAddr rfl Try.underlying27 rfl Try.sizeOf22 rfl rfl)) ?_
              refine lexQ rfl rfl rfl rfl (fun H hM => (yLoad rfl Try.underlying22 rfl rfl (hM.ext.cell (st1.b5.cell rfl)))) ?_
              refine lexQ rfl rfl rfl rfl (fun H hM => (yMove (v := .int _ _) rfl rfl)) ?_
              refine lexQ rfl rfl rfl rfl (fun H hM => (yIdx1 rfl Try.underlying22 Try.sizeOf3 rfl rfl rfl hk)) ?_
              refine lexQ rfl rfl rfl rfl (fun H hM => (yLoad rfl Try.underlying3 rfl rfl (hM.ext.cell hq))) ?_
              refine lexQ rfl rfl rfl rfl (fun H hM => (yFieldAddr rfl Try.underlying27 rfl Try.sizeOf22 rfl rfl)) ?_
              refine lexQ rfl rfl rfl rfl (fun H hM => (yLoad rfl Try.underlying22 rfl rfl (hM.ext.cell (sd1.b8.cell rfl)))) ?_
              refine lexQ rfl rfl rfl rfl (fun H hM => (yMove (v := .int _ _) rfl rfl)) ?_
              refine lexQ rfl rfl rfl rfl (fun H hM => (yIdx1 rfl Try.underlying22 Try.sizeOf3 rfl rfl rfl hk')) ?_
              refine lexQ rfl rfl rfl rfl (fun H hM => (yLoad rfl Try.underlying3 rfl rfl (hM.ext.cell hq'))) ?_
              refine lexQ rfl rfl rfl rfl (fun H hM => (yMax rfl rfl rfl)) ?_
              -- tail
              refine lexNil0 rfl (fun hM => ?_)
              refine seqQ rfl rfl (yIdx1 rfl Try.underlying22 Try.sizeOf3 rfl rfl rfl hk) ?_
              -- e slot None: store T3 t75 t74
              refine seqE0 rfl rfl (stepStoreOwn st1.own rfl Try.sizeOf3 rfl rfl rfl rfl (by omega) ?_)
              intro H5 hown5 hK5
              rw [td_set hj (by omega) (zip_get hk hk').symm] at hown5
              refine seqNil ?_
              refine hF30 _ _ ?_; clear hF30
              refine wpRegion ?_
              refine seqQ rfl rfl (yAdd rfl rfl rfl (by unfold In64; omega)) ?_
              refine seqQ rfl rfl (yMove (v := .int _ _) rfl rfl) ?_
              refine seqNil ?_
              -- end loop
              exact loopEnd (k + 1) (by repeat (first | (with_reducible exact Agree.refl _ _) | refine Agree.upd ?_ rfl | refine Agree.over ?_ rfl)) (by omega) ⟨rfl, trivial⟩ ⟨hk, st1.store hown5 hK5, sd1.store hK5⟩
            · skip
              have ek : k = L.length := by omega
              rw [ek, List.drop_length, List.append_nil, List.take_of_length_le (by omega)] at st1
              refine wpExit ?_
              refine hF26 _ _ ?_; clear hF26
              refine wpSeq fun F32 hF32 => ?_
              refine wpRegion ?_
              refine seqQ rfl rfl (yLoadB st1.b5 rfl Try.underlying27 rfl Try.sizeOf27 rfl) ?_
              -- e slot None: store T27 t4 t77
              refine seqE0 rfl rfl (stepStoreB rfl (by kernel_rfl) rfl rfl rfl st1.b2 rfl ?_)
              intro H7 hB7 hK7
              refine seqQ rfl rfl (yAssign (v := .int _ _) rfl rfl) ?_
              refine seqNil ?_
              refine hF32 _ _ ?_; clear hF32
              -- ret
              refine wpRet (finR2 rfl (resC Try.underlying27 rfl (by kernel_rfl) rfl hB7) (resT (v := .int _ _) rfl) ?_)
              have hd := st1.done hK7
              rw [joinZ_11 hb e e']
              refine ⟨hd.1, _, rfl, ?_⟩
              exact ZO.of (N := a.N) hd.2
set_option maxRecDepth 100000 in
theorem rJoin_c (a b : Zn) (A B : Option Addr) (ca cb : Nat) (H : Heap) (hA : Rd eInt H A a.b) (hB : Rd eInt H B b.b) (h8 : a.N ≤ 8) :
    CallsH Try.prog 38 [.agg (znC a A ca).toArray, .agg (znC b B cb).toArray] H fun v H' => Ext H H' ∧ ∃ u, v = .tuple #[u, .int .i64 (joinZ a b).2] ∧ ZO H' H.size u (joinZ a b).1 := by
  refine callsH_of Try.func38 rfl Try.ntmps38 (Nat.le_of_ble_eq_true rfl) ?_
  refine wpSeq fun F1 hF1 => ?_
  refine wpRegion ?_
  refine seqN rfl rfl (nBoxA rfl rfl) (fun g2 H2 hx2 hB2 hg2 hl2 => ?_)
  refine seqN rfl rfl (nBoxA rfl rfl) (fun g3 H3 hx3 hB3 hg3 hl3 => ?_)
  refine seqN rfl rfl (nAlloc rfl Try.zeroValue24 rfl) (fun g4 H4 hx4 hB4 hg4 hl4 => ?_)
  refine seqQ rfl rfl (yAssign (v := .int _ _) rfl rfl) ?_
  refine seqNil ?_
  refine hF1 _ _ ?_; clear hF1
  refine wpSeq fun F2 hF2 => ?_
  refine wpSeq fun F3 hF3 => ?_
  refine wpRegion ?_
  refine seqQ rfl rfl (yLoadB ((hB2.ext hx3).ext hx4) rfl Try.underlying24 rfl Try.sizeOf24 rfl) ?_
  -- e slot 12: call F28<farandole/farandoleref13.Valid> t11
  refine seqE rfl rfl (stepCall rfl Try.call28 rfl ?_)
  refine (rvalid_c a A ca _ (((hA.ext hx2).ext hx3).ext hx4)).mono ?_
  rintro v H5 ⟨rfl, hx5⟩
  have hE := ((hx2.trans hx3).trans hx4).trans hx5
  have q4 : H.size ≤ g4 := by have := hx2.size; have := hx3.size; omega
  replace hB2 := ((hB2.ext hx3).ext hx4).ext hx5
  replace hB3 := (hB3.ext hx4).ext hx5
  replace hB4 := hB4.ext hx5
  clear hx2 hx3 hx4 hx5
  refine seqQ rfl rfl (yNot rfl rfl) ?_
  -- guard t14
  refine seqGB rfl rfl rfl rfl (fun hv => ?_) (fun hv => ?_)
  · skip
    have hv : ¬ ValZ a := by simpa using hv
    refine seqU rfl rfl ?_
    refine seqU rfl rfl ?_
    refine seqU rfl rfl ?_
    refine seqQ rfl rfl (yPickT (v := .bool _) rfl rfl rfl) ?_
    refine seqQ rfl rfl (yMove (v := .bool true) rfl rfl) ?_
    refine seqU rfl rfl ?_
    refine seqU rfl rfl ?_
    refine seqU rfl rfl ?_
    refine seqU rfl rfl ?_
    refine seqU rfl rfl ?_
    refine seqQ rfl rfl (yPickT (v := .bool _) rfl rfl rfl) ?_
    refine seqNil ?_
    refine hF3 _ _ ?_; clear hF3
    -- if t25
    refine wpT rfl ?_
    refine wpSeq fun F4 hF4 => ?_
    refine wpRegion ?_
    refine seqQ rfl rfl (yBuild (pl := [(0, 1), (1, 1)]) (vs := []) rfl Try.underlying24 Try.zeroValue24 rfl (by unfold Places; kernel_rfl) rfl rfl) ?_
    -- e slot None: store T24 t4 t26
    refine seqE0 rfl rfl (stepStoreB rfl (by kernel_rfl) rfl rfl rfl hB4 rfl ?_)
    intro H6 hB6 hK6
    refine seqQ rfl rfl (yAssign (v := .int _ _) rfl rfl) ?_
    refine seqNil ?_
    refine hF4 _ _ ?_; clear hF4
    -- ret
    refine wpRet (finR2 rfl (resC Try.underlying24 rfl (by kernel_rfl) rfl hB6) (resT (v := .int _ _) rfl) ?_)
    rw [joinZ_no (fun h => hv h.1)]
    exact ⟨hE.mine hK6 (by simp; omega), _, rfl, ZO.zero _ _⟩
  · skip
    have hv : ValZ a := by simpa using hv
    refine seqQ rfl rfl (yLoadB hB3 rfl Try.underlying24 rfl Try.sizeOf24 rfl) ?_
    -- e slot 16: call F28<farandole/farandoleref13.Valid> t15
    refine seqE rfl rfl (stepCall rfl Try.call28 rfl ?_)
    refine (rvalid_c b B cb _ (hB.ext hE)).mono ?_
    rintro v H5 ⟨rfl, hx5⟩
    replace hE := hE.trans hx5
    replace hB2 := hB2.ext hx5
    replace hB3 := hB3.ext hx5
    replace hB4 := hB4.ext hx5
    clear hx5
    refine seqQ rfl rfl (yNot rfl rfl) ?_
    refine seqQ rfl rfl (yPickF (v := .bool _) rfl rfl rfl) ?_
    -- guard t19
    refine seqGB rfl rfl rfl rfl (fun hw => ?_) (fun hw => ?_)
    · skip
      have hw : ¬ ValZ b := by simpa using hw
      refine seqU rfl rfl ?_
      refine seqU rfl rfl ?_
      refine seqU rfl rfl ?_
      refine seqU rfl rfl ?_
      refine seqU rfl rfl ?_
      refine seqQ rfl rfl (yPickT (v := .bool _) rfl rfl rfl) ?_
      refine seqNil ?_
      refine hF3 _ _ ?_; clear hF3
      -- if t25
      refine wpT rfl ?_
      refine wpSeq fun F5 hF5 => ?_
      refine wpRegion ?_
      refine seqQ rfl rfl (yBuild (pl := [(0, 1), (1, 1)]) (vs := []) rfl Try.underlying24 Try.zeroValue24 rfl (by unfold Places; kernel_rfl) rfl rfl) ?_
      -- e slot None: store T24 t4 t26
      refine seqE0 rfl rfl (stepStoreB rfl (by kernel_rfl) rfl rfl rfl hB4 rfl ?_)
      intro H6 hB6 hK6
      refine seqQ rfl rfl (yAssign (v := .int _ _) rfl rfl) ?_
      refine seqNil ?_
      refine hF5 _ _ ?_; clear hF5
      -- ret
      refine wpRet (finR2 rfl (resC Try.underlying24 rfl (by kernel_rfl) rfl hB6) (resT (v := .int _ _) rfl) ?_)
      rw [joinZ_no (fun h => hw h.2.1)]
      exact ⟨hE.mine hK6 (by simp; omega), _, rfl, ZO.zero _ _⟩
    · skip
      have hw : ValZ b := by simpa using hw
      refine seqQ rfl rfl (yFieldAddr rfl Try.underlying24 rfl Try.sizeOf3 rfl rfl) ?_
      refine seqQ rfl rfl (yLoad rfl Try.underlying3 rfl rfl (hB2.cell rfl)) ?_
      refine seqQ rfl rfl (yFieldAddr rfl Try.underlying24 rfl Try.sizeOf3 rfl rfl) ?_
      refine seqQ rfl rfl (yLoad rfl Try.underlying3 rfl rfl (hB3.cell rfl)) ?_
      refine seqQ rfl rfl (yNeq rfl rfl rfl) ?_
      refine seqQ rfl rfl (yPickF (v := .bool _) rfl rfl rfl) ?_
      refine seqNil ?_
      refine hF3 _ _ ?_; clear hF3
      -- if t25
      refine wpCond rfl (fun hn => ?_) (fun hn => ?_)
      · skip
        have hn : ¬ a.N = b.N := by simpa using hn
        refine wpSeq fun F6 hF6 => ?_
        refine wpRegion ?_
        refine seqQ rfl rfl (yBuild (pl := [(0, 1), (1, 1)]) (vs := []) rfl Try.underlying24 Try.zeroValue24 rfl (by unfold Places; kernel_rfl) rfl rfl) ?_
        -- e slot None: store T24 t4 t26
        refine seqE0 rfl rfl (stepStoreB rfl (by kernel_rfl) rfl rfl rfl hB4 rfl ?_)
        intro H6 hB6 hK6
        refine seqQ rfl rfl (yAssign (v := .int _ _) rfl rfl) ?_
        refine seqNil ?_
        refine hF6 _ _ ?_; clear hF6
        -- ret
        refine wpRet (finR2 rfl (resC Try.underlying24 rfl (by kernel_rfl) rfl hB6) (resT (v := .int _ _) rfl) ?_)
        rw [joinZ_no (fun h => hn h.2.2)]
        exact ⟨hE.mine hK6 (by simp; omega), _, rfl, ZO.zero _ _⟩
      · skip
        have hn : a.N = b.N := by simpa using hn
        have hb : Both a b := ⟨hv, hw, hn⟩
        have hda := hv.dim
        have hdb := hw.dim
        rw [← hb.dm] at hdb
        have sE := hE.size
        have l4 := hB4.lt
        refine wpSkip ?_
        refine hF2 _ _ ?_; clear hF2
        refine wpSeq fun F7 hF7 => ?_
        refine wpRegion ?_
        refine seqQ rfl rfl (yLoadB hB2 rfl Try.underlying24 rfl Try.sizeOf24 rfl) ?_
        -- e slot 29: call F16<farandole/farandoleref13.Close> t28
        refine seqE rfl rfl (stepCall rfl Try.call16 rfl ?_)
        have hc := rClose_c a A ca _ (hA.ext hE) h8
        rcases closeZ_cases a with ⟨e, _⟩ | ⟨L, e, -, hL⟩
        · skip
          rw [e] at hc
          refine hc.mono ?_
          rintro v Hc ⟨hxc, u, rfl, A', ca', rfl, ho⟩
          refine seqQ rfl rfl (yMove (v := .tuple _) rfl rfl) ?_
          refine seqQ rfl rfl (yExtract (v := .agg _) rfl rfl rfl) ?_
          refine seqQ rfl rfl (yExtract (v := .bool _) rfl rfl rfl) ?_
          refine seqN rfl rfl (nAlloc rfl Try.zeroValue24 rfl) (fun g6 H6 hx6 hB6 hg6 hl6 => ?_)
          -- e slot None: store T24 t6 t30
          refine seqE0 rfl rfl (stepStoreB rfl (by kernel_rfl) rfl rfl rfl hB6 rfl ?_)
          intro H7 hB7 hK7
          have x7 := afterStore hxc hx6 hg6 hK7
          replace hE := hE.trans x7
          replace hB2 := hB2.ext x7
          replace hB3 := hB3.ext x7
          replace hB4 := hB4.ext x7
          clear hxc hx6 hK7 x7 ho hc hB6
          refine seqQ rfl rfl (yAssign (v := .bool _) rfl rfl) ?_
          refine seqNil ?_
          refine hF7 _ _ ?_; clear hF7
          refine wpSeq fun F8 hF8 => ?_
          refine wpRegion ?_
          refine seqQ rfl rfl (yLoadB hB3 rfl Try.underlying24 rfl Try.sizeOf24 rfl) ?_
          -- e slot 34: call F16<farandole/farandoleref13.Close> t33
          refine seqE rfl rfl (stepCall rfl Try.call16 rfl ?_)
          have hc := rClose_c b B cb _ (hB.ext hE) (by omega)
          rcases closeZ_cases b with ⟨e', _⟩ | ⟨L', e', -, hL'⟩
          · skip
            rw [e'] at hc
            refine hc.mono ?_
            rintro v Hd ⟨hxd, u, rfl, A', ca', rfl, ho⟩
            refine seqQ rfl rfl (yMove (v := .tuple _) rfl rfl) ?_
            refine seqQ rfl rfl (yExtract (v := .agg _) rfl rfl rfl) ?_
            refine seqQ rfl rfl (yExtract (v := .bool _) rfl rfl rfl) ?_
            refine seqN rfl rfl (nAlloc rfl Try.zeroValue24 rfl) (fun g8 H8 hx8 hB8 hg8 hl8 => ?_)
            -- e slot None: store T24 t8 t35
            refine seqE0 rfl rfl (stepStoreB rfl (by kernel_rfl) rfl rfl rfl hB8 rfl ?_)
            intro H9 hB9 hK9
            have x9 := afterStore hxd hx8 hg8 hK9
            replace hE := hE.trans x9
            replace hB2 := hB2.ext x9
            replace hB4 := hB4.ext x9
            refine seqQ rfl rfl (yAssign (v := .bool _) rfl rfl) ?_
            refine seqNil ?_
            refine hF8 _ _ ?_; clear hF8
            refine wpSeq fun F9 hF9 => ?_
            refine wpBlock ?_
            refine wpSeq fun F10 hF10 => ?_
            refine wpRegion ?_
            refine seqQ rfl rfl (yMove (v := .bool _) rfl rfl) ?_
            refine seqQ rfl rfl (yNot rfl rfl) ?_
            refine seqQ rfl rfl (yMove (v := .bool true) rfl rfl) ?_
            refine seqQ rfl rfl (yMove (v := .bool _) rfl rfl) ?_
            refine seqQ rfl rfl (yNot rfl rfl) ?_
            refine seqQ rfl rfl (yPickT (v := .bool _) rfl rfl rfl) ?_
            refine seqQ rfl rfl (yAssign (v := .bool _) rfl rfl) ?_
            refine seqNil ?_
            refine hF10 _ _ ?_; clear hF10
            -- if t37
            refine wpT rfl ?_
            refine wpSeq fun F11 hF11 => ?_
            refine wpRegion ?_
            refine seqQ rfl rfl (yFieldAddr rfl Try.underlying24 rfl Try.sizeOf3 rfl rfl) ?_
            refine seqQ rfl rfl (yLoad rfl Try.underlying3 rfl rfl (hB2.cell rfl)) ?_
            -- e slot 46: call F53<farandole/farandoleref13.Empty> t45
            refine seqE rfl rfl (stepCall rfl Try.call53 rfl ?_)
            refine (rEmpty_c a.N _ (by omega) (by omega)).mono ?_
            rintro v Hn ⟨hxn, An, cn, rfl, hon⟩
            -- e slot None: store T24 t4 t46
            refine seqE0 rfl rfl (stepStoreB rfl (by kernel_rfl) rfl rfl rfl (hB4.ext hxn) rfl ?_)
            intro Hm hBm hKm
            refine seqQ rfl rfl (yAssign (v := .int _ _) rfl rfl) ?_
            refine seqNil ?_
            refine hF11 _ _ ?_; clear hF11
            -- ret
            refine wpRet (finR2 rfl (resC Try.underlying24 rfl (by kernel_rfl) rfl hBm) (resT (v := .int _ _) rfl) ?_)
            rw [joinZ_00 hb e e']
            refine ⟨(hE.trans hxn).mine hKm (by simp; omega), _, rfl, ?_⟩
            have sE2 := hE.size
            have l9 := hB4.lt
            exact (ZO.keep ⟨An, cn, rfl, hon⟩ hKm l9).fresh sE2
          · skip
            rw [e'] at hc
            refine hc.mono ?_
            rintro v Hd ⟨hxd, u, rfl, A', ca', rfl, ho⟩
            have s8 := hE.size
            have l8 := hB4.lt
            refine seqQ rfl rfl (yMove (v := .tuple _) rfl rfl) ?_
            refine seqQ rfl rfl (yExtract (v := .agg _) rfl rfl rfl) ?_
            refine seqQ rfl rfl (yExtract (v := .bool _) rfl rfl rfl) ?_
            refine seqN rfl rfl (nAlloc rfl Try.zeroValue24 rfl) (fun g8 H8 hx8 hB8 hg8 hl8 => ?_)
            -- e slot None: store T24 t8 t35
            refine seqE0 rfl rfl (stepStoreB rfl (by kernel_rfl) rfl rfl rfl hB8 rfl ?_)
            intro H9 hB9 hK9
            have x9 := afterStore hxd hx8 hg8 hK9
            have ho9 := ownStore ho hx8 hg8 hK9
            replace hE := hE.trans x9
            replace hB4 := hB4.ext x9
            refine seqQ rfl rfl (yAssign (v := .bool _) rfl rfl) ?_
            refine seqNil ?_
            refine hF8 _ _ ?_; clear hF8
            refine wpSeq fun F12 hF12 => ?_
            refine wpBlock ?_
            refine wpSeq fun F13 hF13 => ?_
            refine wpRegion ?_
            refine seqQ rfl rfl (yMove (v := .bool _) rfl rfl) ?_
            refine seqQ rfl rfl (yNot rfl rfl) ?_
            refine seqQ rfl rfl (yMove (v := .bool true) rfl rfl) ?_
            refine seqQ rfl rfl (yMove (v := .bool _) rfl rfl) ?_
            refine seqQ rfl rfl (yNot rfl rfl) ?_
            refine seqQ rfl rfl (yPickT (v := .bool _) rfl rfl rfl) ?_
            refine seqQ rfl rfl (yAssign (v := .bool _) rfl rfl) ?_
            refine seqNil ?_
            refine hF13 _ _ ?_; clear hF13
            -- if t37
            refine wpF rfl ?_
            refine wpSeq fun F14 hF14 => ?_
            refine wpRegion ?_
            refine seqQ rfl rfl (yMove (v := .bool _) rfl rfl) ?_
            refine seqQ rfl rfl (yNot rfl rfl) ?_
            refine seqQ rfl rfl (yAssign (v := .bool _) rfl rfl) ?_
            refine seqNil ?_
            refine hF14 _ _ ?_; clear hF14
            -- if t47
            refine wpT rfl ?_
            refine wpSeq fun F15 hF15 => ?_
            refine wpRegion ?_
            refine seqQ rfl rfl (yLoadB hB9 rfl Try.underlying24 rfl Try.sizeOf24 rfl) ?_
            -- e slot None: store T24 t4 t50
            refine seqE0 rfl rfl (stepStoreB rfl (by kernel_rfl) rfl rfl rfl hB4 rfl ?_)
            intro Hm hBm hKm
            refine seqQ rfl rfl (yAssign (v := .int _ _) rfl rfl) ?_
            refine seqNil ?_
            refine hF15 _ _ ?_; clear hF15
            -- ret
            refine wpRet (finR2 rfl (resC Try.underlying24 rfl (by kernel_rfl) rfl hBm) (resT (v := .int _ _) rfl) ?_)
            rw [joinZ_01 hb e e']
            refine ⟨hE.mine hKm (by simp; omega), _, rfl, ?_⟩
            exact (ZO.keep ⟨A', ca', rfl, ho9⟩ hKm l8).fresh s8
        · skip
          rw [e] at hc
          refine hc.mono ?_
          rintro v Hc ⟨hxc, u, rfl, A', ca', rfl, ho⟩
          refine seqQ rfl rfl (yMove (v := .tuple _) rfl rfl) ?_
          refine seqQ rfl rfl (yExtract (v := .agg _) rfl rfl rfl) ?_
          refine seqQ rfl rfl (yExtract (v := .bool _) rfl rfl rfl) ?_
          refine seqN rfl rfl (nAlloc rfl Try.zeroValue24 rfl) (fun g6 H6 hx6 hB6 hg6 hl6 => ?_)
          -- e slot None: store T24 t6 t30
          refine seqE0 rfl rfl (stepStoreB rfl (by kernel_rfl) rfl rfl rfl hB6 rfl ?_)
          intro H7 hB7 hK7
          have x7 := afterStore hxc hx6 hg6 hK7
          have ho7 := ownStore ho hx6 hg6 hK7
          have s6 := hxc.size
          have l6 : g6 < H7.size := hB7.lt
          have o6 : ∀ b, (Value.slice A' L.length ca').ownBlock = some b → b ≠ g6 ∧ b ≠ g4 := fun b hb => by have := ho.lt b hb; omega
          replace hE := hE.trans x7
          replace hB3 := hB3.ext x7
          replace hB4 := hB4.ext x7
          clear hxc hx6 hK7 x7 hc hB6 hB2
          have s7 := hE.size
          have hll := hL.len
          have hl625 : L.length ≤ 625 := by rw [hll]; exact mul25 hda.2.2.1 hda.2.2.1
          have hl0 : 0 < L.length := by rw [hll]; exact Nat.mul_pos hda.2.1 hda.2.1
          refine seqQ rfl rfl (yAssign (v := .bool _) rfl rfl) ?_
          refine seqNil ?_
          refine hF7 _ _ ?_; clear hF7
          refine wpSeq fun F16 hF16 => ?_
          refine wpRegion ?_
          refine seqQ rfl rfl (yLoadB hB3 rfl Try.underlying24 rfl Try.sizeOf24 rfl) ?_
          -- e slot 34: call F16<farandole/farandoleref13.Close> t33
          refine seqE rfl rfl (stepCall rfl Try.call16 rfl ?_)
          have hc := rClose_c b B cb _ (hB.ext hE) (by omega)
          rcases closeZ_cases b with ⟨e', _⟩ | ⟨L', e', -, hL'⟩
          · skip
            rw [e'] at hc
            refine hc.mono ?_
            rintro v Hd ⟨hxd, u, rfl, A2, ca2, rfl, ho2⟩
            refine seqQ rfl rfl (yMove (v := .tuple _) rfl rfl) ?_
            refine seqQ rfl rfl (yExtract (v := .agg _) rfl rfl rfl) ?_
            refine seqQ rfl rfl (yExtract (v := .bool _) rfl rfl rfl) ?_
            refine seqN rfl rfl (nAlloc rfl Try.zeroValue24 rfl) (fun g8 H8 hx8 hB8 hg8 hl8 => ?_)
            -- e slot None: store T24 t8 t35
            refine seqE0 rfl rfl (stepStoreB rfl (by kernel_rfl) rfl rfl rfl hB8 rfl ?_)
            intro H9 hB9 hK9
            have x9 := afterStore hxd hx8 hg8 hK9
            replace hE := hE.trans x9
            replace hB4 := hB4.ext x9
            replace hB7 := hB7.ext x9
            refine seqQ rfl rfl (yAssign (v := .bool _) rfl rfl) ?_
            refine seqNil ?_
            refine hF16 _ _ ?_; clear hF16
            refine wpSeq fun F17 hF17 => ?_
            refine wpBlock ?_
            refine wpSeq fun F18 hF18 => ?_
            refine wpRegion ?_
            refine seqQ rfl rfl (yMove (v := .bool _) rfl rfl) ?_
            refine seqQ rfl rfl (yNot rfl rfl) ?_
            refine seqQ rfl rfl (yMove (v := .bool false) rfl rfl) ?_
            refine seqU rfl rfl ?_
            refine seqU rfl rfl ?_
            refine seqQ rfl rfl (yPickF (v := .bool _) rfl rfl rfl) ?_
            refine seqQ rfl rfl (yAssign (v := .bool _) rfl rfl) ?_
            refine seqNil ?_
            refine hF18 _ _ ?_; clear hF18
            -- if t37
            refine wpF rfl ?_
            refine wpSeq fun F19 hF19 => ?_
            refine wpRegion ?_
            refine seqQ rfl rfl (yMove (v := .bool _) rfl rfl) ?_
            refine seqQ rfl rfl (yNot rfl rfl) ?_
            refine seqQ rfl rfl (yAssign (v := .bool _) rfl rfl) ?_
            refine seqNil ?_
            refine hF19 _ _ ?_; clear hF19
            -- if t47
            refine wpF rfl ?_
            refine wpSeq fun F20 hF20 => ?_
            refine wpRegion ?_
            refine seqQ rfl rfl (yMove (v := .bool _) rfl rfl) ?_
            refine seqQ rfl rfl (yNot rfl rfl) ?_
            refine seqQ rfl rfl (yAssign (v := .bool _) rfl rfl) ?_
            refine seqNil ?_
            refine hF20 _ _ ?_; clear hF20
            -- if t51
            refine wpT rfl ?_
            refine wpSeq fun F21 hF21 => ?_
            refine wpRegion ?_
            refine seqQ rfl rfl (yLoadB hB7 rfl Try.underlying24 rfl Try.sizeOf24 rfl) ?_
            -- e slot None: store T24 t4 t54
            refine seqE0 rfl rfl (stepStoreB rfl (by kernel_rfl) rfl rfl rfl hB4 rfl ?_)
            intro Hm hBm hKm
            refine seqQ rfl rfl (yAssign (v := .int _ _) rfl rfl) ?_
            refine seqNil ?_
            refine hF21 _ _ ?_; clear hF21
            -- ret
            refine wpRet (finR2 rfl (resC Try.underlying24 rfl (by kernel_rfl) rfl hBm) (resT (v := .int _ _) rfl) ?_)
            rw [joinZ_10 hb e e']
            refine ⟨hE.mine hKm (by simp; omega), _, rfl, ?_⟩
            exact (ZO.keep ⟨A', ca', rfl, ho7.ext x9⟩ hKm (by omega)).fresh sE
          · skip
            rw [e'] at hc
            refine hc.mono ?_
            rintro v Hd ⟨hxd, u, rfl, A2, ca2, rfl, ho2⟩
            have r2 := (Own.rd ho2).2
            refine seqQ rfl rfl (yMove (v := .tuple _) rfl rfl) ?_
            refine seqQ rfl rfl (yExtract (v := .agg _) rfl rfl rfl) ?_
            refine seqQ rfl rfl (yExtract (v := .bool _) rfl rfl rfl) ?_
            refine seqN rfl rfl (nAlloc rfl Try.zeroValue24 rfl) (fun g8 H8 hx8 hB8 hg8 hl8 => ?_)
            -- e slot None: store T24 t8 t35
            refine seqE0 rfl rfl (stepStoreB rfl (by kernel_rfl) rfl rfl rfl hB8 rfl ?_)
            intro H9 hB9 hK9
            have x9 := afterStore hxd hx8 hg8 hK9
            have s8 := hxd.size
            replace hE := hE.trans x9
            replace hB4 := hB4.ext x9
            replace hB7 := hB7.ext x9
            replace ho7 := ho7.ext x9
            have hll' := hL'.len
            rw [← hb.dm] at hll'
            obtain ⟨p, rfl, hp0⟩ := (Own.rd ho7).2.at1 hl0
            have hpb := ho.lt p.block rfl
            have op := o6 p.block rfl
            have st : ZSt H g4 g6 24 a.N p L.length ca' L H9 := ⟨hE, ho7.mono (by omega), hB4, hB7, fun h => op.2 h.symm, fun h => op.1 h.symm, by omega, q4⟩
            have sd : Side g8 24 p [.int .i64 b.N, .slice A2 L'.length ca2] A2 L' H9 := ⟨hB9, RdM.of (rdStore r2 hx8 hg8 hK9) (by intro q eq; subst eq; have := (ho2.lt q.block rfl).1; have := hpb.2; simp; omega), by have := hpb.2; omega⟩
            clear hxd hx8 hK9 x9 ho2 hc hB8 hB9 hB4 hB7 ho7 r2 ho hp0
            have hj : (List.zipWith max L L').length = L.length := zip_len (by omega)
            refine seqQ rfl rfl (yAssign (v := .bool _) rfl rfl) ?_
            refine seqNil ?_
            refine hF16 _ _ ?_; clear hF16
            refine wpSeq fun F22 hF22 => ?_
            refine wpBlock ?_
            refine wpSeq fun F23 hF23 => ?_
            refine wpRegion ?_
            refine seqQ rfl rfl (yMove (v := .bool _) rfl rfl) ?_
            refine seqQ rfl rfl (yNot rfl rfl) ?_
            refine seqQ rfl rfl (yMove (v := .bool false) rfl rfl) ?_
            refine seqU rfl rfl ?_
            refine seqU rfl rfl ?_
            refine seqQ rfl rfl (yPickF (v := .bool _) rfl rfl rfl) ?_
            refine seqQ rfl rfl (yAssign (v := .bool _) rfl rfl) ?_
            refine seqNil ?_
            refine hF23 _ _ ?_; clear hF23
            -- if t37
            refine wpF rfl ?_
            refine wpSeq fun F24 hF24 => ?_
            refine wpRegion ?_
            refine seqQ rfl rfl (yMove (v := .bool _) rfl rfl) ?_
            refine seqQ rfl rfl (yNot rfl rfl) ?_
            refine seqQ rfl rfl (yAssign (v := .bool _) rfl rfl) ?_
            refine seqNil ?_
            refine hF24 _ _ ?_; clear hF24
            -- if t47
            refine wpF rfl ?_
            refine wpSeq fun F25 hF25 => ?_
            refine wpRegion ?_
            refine seqQ rfl rfl (yMove (v := .bool _) rfl rfl) ?_
            refine seqQ rfl rfl (yNot rfl rfl) ?_
            refine seqQ rfl rfl (yAssign (v := .bool _) rfl rfl) ?_
            refine seqNil ?_
            refine hF25 _ _ ?_; clear hF25
            -- if t51
            refine wpF rfl ?_
            refine wpSkip ?_
            refine hF22 _ _ ?_; clear hF22
            refine wpSeq fun F26 hF26 => ?_
            refine wpSeq fun F27 hF27 => ?_
            refine wpRegion ?_
            refine seqQ rfl rfl (yAssign (v := .int _ _) rfl rfl) ?_
            refine seqNil ?_
            refine hF27 _ _ ?_; clear hF27
            -- loop
            refine wpBlock ?_
            refine wpLoopS [10, 55, 56, 57, 58, 59, 60, 61, 62, 63, 64, 65, 66, 67, 68, 69, 70, 71, 72, 73, 74, 75, 76] (fun k : Nat => [(10, .int .i64 k)]) (fun k H' => k ≤ L.length ∧ ZSt H g4 g6 24 a.N p L.length ca' ((List.zipWith max L L').take k ++ L.drop k) H' ∧ Side g8 24 p [.int .i64 b.N, .slice A2 L'.length ca2] A2 L' H') (fun k => L.length - k) 0 ⟨rfl, trivial⟩ ⟨Nat.zero_le _, by simpa using st, sd⟩ ?_
            rintro k J Hk ⟨hk, st1, sd1⟩
            clear st sd
            refine wpSeq fun F28 hF28 => ?_
            refine wpSeq fun F29 hF29 => ?_
            refine wpRegion ?_
            refine seqQ rfl rfl (yMove (v := .int _ _) rfl rfl) ?_
            refine seqQ rfl rfl (yFieldAddr rfl Try.underlying24 rfl Try.sizeOf22 rfl rfl) ?_
            refine seqQ rfl rfl (yLoad rfl Try.underlying22 rfl rfl (st1.b5.cell rfl)) ?_
            refine seqQ rfl rfl (yLen rfl Try.underlying22 rfl) ?_
            refine seqQ rfl rfl (yLss rfl rfl rfl) ?_
            refine seqNil ?_
            refine hF29 _ _ ?_; clear hF29
            -- if t59
            refine wpIf rfl (fun hlt => ?_) (fun hlt => ?_)
            · skip
              have hk : k < L.length := by omega
              have hk' : k < L'.length := by omega
              have hlen := td_len (k := k) hj (by omega)
              obtain ⟨q, eq, hq⟩ := (Own.rd st1.own).2.at1 (k := k) (by omega)
              rw [td_get hj (by omega)] at hq
              obtain rfl := Option.some.inj eq
              obtain ⟨q', eq', hq'⟩ := sd1.rd.rd.at1 hk'
              subst eq'
              refine wpSkip ?_
              refine hF28 _ _ ?_; clear hF28
              refine wpSeq fun F30 hF30 => ?_
              refine wpBlock ?_
              refine wpRegionD Try_mixed [.q, .q, .q, .q, .q, .q, .q, .q, .q, .q, .q, .q, .q, .q, .q, .e] 14 [0, 1, 0, 0, 8, 0, 56, 120, 0, 256, 0, 1792, 3840, 8184, 16383, 32767] [] (by kernel_rfl) _ rfl [0, 1, 2, 3, 4, 5, 6, 7, 8, 9, 10, 11, 12, 13] rfl (by simp) ?_
              refine lexQ rfl rfl rfl rfl (fun H hM => (yFieldAddr rfl Try.underlying24 rfl Try.sizeOf22 rfl rfl)) ?_
              refine lexQ rfl rfl rfl rfl (fun H hM => (yLoad rfl Try.underlying22 rfl rfl (hM.ext.cell (st1.b5.cell rfl)))) ?_
              refine lexQ rfl rfl rfl rfl (fun H hM => (yMove (v := .int _ _) rfl rfl)) ?_
              refine lexQ rfl rfl rfl rfl (fun H hM => (yFieldAddr rfl Try.underlying24 rfl Try.sizeOf22 rfl rfl)) ?_
              refine lexQ rfl rfl rfl rfl (fun H hM => (yLoad rfl Try.underlying22 rfl rfl (hM.ext.cell (st1.b5.cell rfl)))) ?_
              refine lexQ rfl rfl rfl rfl (fun H hM => (yMove (v := .int _ _) rfl rfl)) ?_
              refine lexQ rfl rfl rfl rfl (fun H hM => (yIdx1 rfl Try.underlying22 Try.sizeOf3 rfl rfl rfl hk)) ?_
              refine lexQ rfl rfl rfl rfl (fun H hM => (yLoad rfl Try.underlying3 rfl rfl (hM.ext.cell hq))) ?_
              refine lexQ rfl rfl rfl rfl (fun H hM => (yFieldAddr rfl Try.underlying24 rfl Try.sizeOf22 rfl rfl)) ?_
              refine lexQ rfl rfl rfl rfl (fun H hM => (yLoad rfl Try.underlying22 rfl rfl (hM.ext.cell (sd1.b8.cell rfl)))) ?_
              refine lexQ rfl rfl rfl rfl (fun H hM => (yMove (v := .int _ _) rfl rfl)) ?_
              refine lexQ rfl rfl rfl rfl (fun H hM => (yIdx1 rfl Try.underlying22 Try.sizeOf3 rfl rfl rfl hk')) ?_
              refine lexQ rfl rfl rfl rfl (fun H hM => (yLoad rfl Try.underlying3 rfl rfl (hM.ext.cell hq'))) ?_
              refine lexQ rfl rfl rfl rfl (fun H hM => (yMax rfl rfl rfl)) ?_
              -- tail
              refine lexNil0 rfl (fun hM => ?_)
              refine seqQ rfl rfl (yIdx1 rfl Try.underlying22 Try.sizeOf3 rfl rfl rfl hk) ?_
              -- e slot None: store T3 t76 t75
              refine seqE0 rfl rfl (stepStoreOwn st1.own rfl Try.sizeOf3 rfl rfl rfl rfl (by omega) ?_)
              intro H5 hown5 hK5
              rw [td_set hj (by omega) (zip_get hk hk').symm] at hown5
              refine seqNil ?_
              refine hF30 _ _ ?_; clear hF30
              refine wpRegion ?_
              refine seqQ rfl rfl (yMove (v := .int _ _) rfl rfl) ?_
              refine seqQ rfl rfl (yAdd rfl rfl rfl (by unfold In64; omega)) ?_
              refine seqQ rfl rfl (yAssign (v := .int _ _) rfl rfl) ?_
              refine seqNil ?_
              -- end loop
              exact loopEnd (k + 1) (by repeat (first | (with_reducible exact Agree.refl _ _) | refine Agree.upd ?_ rfl | refine Agree.over ?_ rfl)) (by omega) ⟨rfl, trivial⟩ ⟨hk, st1.store hown5 hK5, sd1.store hK5⟩
            · skip
              have ek : k = L.length := by omega
              rw [ek, List.drop_length, List.append_nil, List.take_of_length_le (by omega)] at st1
              refine wpExit ?_
              refine hF26 _ _ ?_; clear hF26
              refine wpSeq fun F31 hF31 => ?_
              refine wpRegion ?_
              refine seqQ rfl rfl (yLoadB st1.b5 rfl Try.underlying24 rfl Try.sizeOf24 rfl) ?_
              -- e slot None: store T24 t4 t77
              refine seqE0 rfl rfl (stepStoreB rfl (by kernel_rfl) rfl rfl rfl st1.b2 rfl ?_)
              intro H7 hB7 hK7
              refine seqQ rfl rfl (yAssign (v := .int _ _) rfl rfl) ?_
              refine seqNil ?_
              refine hF31 _ _ ?_; clear hF31
              -- ret
              refine wpRet (finR2 rfl (resC Try.underlying24 rfl (by kernel_rfl) rfl hB7) (resT (v := .int _ _) rfl) ?_)
              have hd := st1.done hK7
              rw [joinZ_11 hb e e']
              refine ⟨hd.1, _, rfl, ?_⟩
              exact ZO.of (N := a.N) hd.2
end Go.Proofs.Ytjkbkmbblidipaa
