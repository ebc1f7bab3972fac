/- Package wire: Event of a reader; the laws' helpers. -/
import Derived.Test.YtbanngdijmglbaaW8
import Derived.Laws.StructEq
namespace Go.Proofs.Ytbanngdijmglbaa
open Go.RowKit

set_option maxRecDepth 100000 in
theorem VE.keep {b0 g : Nat} {H H' : Heap} {x : Evt} {v : Value} (h : VE b0 H x v) (hK : Keep [g] H H') (hg : g < b0 ∨ H.size ≤ g) : VE b0 H' x v := by
  obtain ⟨⟨A, c, rfl, ho⟩, hok⟩ := h
  refine ⟨⟨A, c, rfl, ho.keep hK fun b hb => ?_⟩, hok⟩
  have := ho.lt b hb
  simp
  omega
set_option maxRecDepth 100000 in
theorem VE.mono {b0 b1 : Nat} {H : Heap} {x : Evt} {v : Value} (h : VE b0 H x v) (hb : b1 ≤ b0) : VE b1 H x v := by
  obtain ⟨⟨A, c, rfl, ho⟩, hok⟩ := h
  exact ⟨⟨A, c, rfl, ho.mono hb⟩, hok⟩
set_option maxRecDepth 100000 in
theorem VE.ext {b0 : Nat} {H H' : Heap} {x : Evt} {v : Value} (h : VE b0 H x v) (hx : Ext H H') : VE b0 H' x v := by
  obtain ⟨⟨A, c, rfl, ho⟩, hok⟩ := h
  exact ⟨⟨A, c, rfl, ho.ext hx⟩, hok⟩
set_option maxRecDepth 100000 in
theorem VE.keep2 {b0 g : Nat} {H1 H7 H8 : Heap} {x : Evt} {v : Value} (h : VE b0 H1 x v) (hx : Ext H1 H7) (hK : Keep [g] H7 H8) (hg : H1.size ≤ g) : VE b0 H8 x v := by
  obtain ⟨⟨A, c, rfl, ho⟩, hok⟩ := h
  refine ⟨⟨A, c, rfl, (ho.ext hx).keep hK fun b hb => ?_⟩, hok⟩
  have := ho.lt b hb
  simp
  omega
set_option maxRecDepth 100000 in
theorem VE.shape {b0 : Nat} {H : Heap} {x : Evt} {v : Value} (h : VE b0 H x v) : ∃ (na np nl : Int) (ns : Bool) (A : Option Addr) (n c : Nat), v = .agg [.int .i64 na, .bool ns, .int .i64 np, .int .i64 nl, .slice A n c].toArray := by
  obtain ⟨⟨A, c, rfl, _⟩, _⟩ := h
  exact ⟨_, _, _, _, _, _, _, rfl⟩
def ev0 : Evt := ⟨0, false, 0, 0, []⟩
set_option maxRecDepth 100000 in
theorem Event_c (g : Nat) (B : Option Addr) (cB : Nat) (D : List UInt8) (k : Nat) (f : Bool) (H : Heap) (h : Rdr H g B cB D k f) :
    CallsH Try.prog 62 [.pointer (some ⟨g, 0, none⟩)] H fun v H' => PP pEvt (VE H.size) (.agg (evC ev0 none 0).toArray) g B cB D k f H v H' := by
  have key : ∀ H, Rdr H g B cB D k f → CallsH Try.prog 88 [.pointer (some ⟨g, 0, none⟩), .func (.func 89) #[.pointer (some ⟨g, 0, none⟩)] #[]] H fun v H' => PP pEvt (VE H.size) (.agg (evC ev0 none 0).toArray) g B cB D k f H v H' := by
    clear h H
    intro H h
    have lg := h.blk.lt
    refine callsH_of Try.func88 rfl Try.ntmps88 (Nat.le_of_ble_eq_true rfl) ?_
    refine wpSeq fun F1 hF1 => ?_
    refine wpRegion ?_
    refine seqN rfl rfl (nAlloc rfl Try.zeroValue26 rfl) (fun g4 H4 hx4 hB4 hg4 hl4 => ?_)
    refine seqNil ?_
    refine hF1 _ _ ?_; clear hF1
    refine wpSeq fun F2 hF2 => ?_
    refine wpRegion ?_
    refine seqN rfl rfl (nAlloc rfl Try.zeroValue26 rfl) (fun g5 H5 hx5 hB5 hg5 hl5 => ?_)
    refine seqNil ?_
    refine hF2 _ _ ?_; clear hF2
    refine wpSeq fun F3 hF3 => ?_
    refine wpSeq fun F4 hF4 => ?_
    refine wpRegion ?_
    refine seqQ rfl rfl (yMove (v := .pointer _) rfl rfl) ?_
    refine seqQ rfl rfl (yEqlPN rfl Try.underlying118 rfl rfl) ?_
    refine seqQ rfl rfl (yMove (v := .bool false) rfl rfl) ?_
    refine seqQ rfl rfl (yMove (v := .pointer _) rfl rfl) ?_
    refine seqQ rfl rfl (yNilCheck rfl rfl) ?_
    refine seqQ rfl rfl (yFieldAddr rfl Try.underlying140 rfl Try.sizeOf4 rfl rfl) ?_
    refine seqQ rfl rfl (yLoad rfl Try.underlying4 rfl rfl (((h.ext hx4).ext hx5).blk.cell rfl)) ?_
    refine seqQ rfl rfl (yPickF (v := .bool _) rfl rfl rfl) ?_
    refine seqNil ?_
    refine hF4 _ _ ?_; clear hF4
    -- if t15
    have hE := hx4.trans hx5
    have h5 := (h.ext hx4).ext hx5
    have hB45 := hB4.ext hx5
    have s4 := hx4.size
    have l4 := hB4.lt
    have l5 := hB5.lt
    cases f
    · skip
      refine wpF rfl ?_
      refine wpSkip ?_
      refine hF3 _ _ ?_; clear hF3
      refine wpSeq fun F5 hF5 => ?_
      refine wpRegion ?_
      refine seqQ rfl rfl (yMove (v := .pointer _) rfl rfl) ?_
      refine seqQ rfl rfl (yNilCheck rfl rfl) ?_
      refine seqQ rfl rfl (yFieldAddr rfl Try.underlying140 rfl Try.sizeOf3 rfl rfl) ?_
      refine seqQ rfl rfl (yLoad rfl Try.underlying3 rfl rfl (h5.blk.cell rfl)) ?_
      refine seqQ rfl rfl (yAssign (v := .int _ _) rfl rfl) ?_
      refine seqNil ?_
      refine hF5 _ _ ?_; clear hF5
      refine wpSeq fun F6 hF6 => ?_
      refine wpRegion ?_
      refine seqQ rfl rfl (yMove (v := .func _ _ _) rfl rfl) ?_
      -- e slot 22: callv t21 
      refine seqE rfl rfl (stepCallV (first := [.pointer (some ⟨g, 0, none⟩)]) (cap := []) rfl Try.call89 rfl rfl ?_)
      refine (event_r g B cB D k false H5 h5).mono ?_
      rintro v H1 hr
      obtain ⟨hK1, f1, k1, h1, hc1⟩ := hr.flat
      have s1 := hK1.size
      obtain ⟨na, np, nl, ns, A, n, c, rfl⟩ : ∃ (na np nl : Int) (ns : Bool) (A : Option Addr) (n c : Nat), v = .agg [.int .i64 na, .bool ns, .int .i64 np, .int .i64 nl, .slice A n c].toArray := by
        rcases hc1 with ⟨_, _, a, p, l, s, A, n, c, rfl⟩ | ⟨_, a, _, ⟨A, c, rfl, _⟩, _⟩
        · exact ⟨a, p, l, s, A, n, c, rfl⟩
        · exact ⟨_, _, _, _, _, _, _, rfl⟩
      have hB41 := hB45.keep hK1 (by simp; omega)
      have hB51 := hB5.keep hK1 (by simp; omega)
      refine seqN rfl rfl (nAlloc rfl Try.zeroValue26 rfl) (fun g7 H7 hx7 hB7 hg7 hl7 => ?_)
      -- e slot None: store T26 t7 t22
      refine seqE0 rfl rfl (stepStoreB rfl (by kernel_rfl) rfl rfl rfl hB7 rfl ?_)
      intro H8 hB8 hK8
      have s7 := hx7.size
      have h8 := (h1.ext hx7).new h5 hK8 (by omega)
      have hB48 := (hB41.ext hx7).keep hK8 (by simp; omega)
      have hB58 := (hB51.ext hx7).keep hK8 (by simp; omega)
      have hK : Keep [g] H H8 := keepNew (keepExt ((hE.keep [g]).trans hK1) hx7) hK8 (by omega)
      refine seqNil ?_
      refine hF6 _ _ ?_; clear hF6
      refine wpSeq fun F7 hF7 => ?_
      refine wpSeq fun F8 hF8 => ?_
      refine wpRegion ?_
      refine seqQ rfl rfl (yMove (v := .pointer _) rfl rfl) ?_
      refine seqQ rfl rfl (yNilCheck rfl rfl) ?_
      refine seqQ rfl rfl (yFieldAddr rfl Try.underlying140 rfl Try.sizeOf4 rfl rfl) ?_
      refine seqQ rfl rfl (yLoad rfl Try.underlying4 rfl rfl (h8.blk.cell rfl)) ?_
      refine seqNil ?_
      refine hF8 _ _ ?_; clear hF8
      -- if t26
      rcases hc1 with ⟨rfl, hp, hu⟩ | ⟨rfl, a, hp, hv⟩
      · skip
        refine wpT rfl ?_
        refine wpSeq fun F9 hF9 => ?_
        refine wpRegion ?_
        refine seqQ rfl rfl (yMove (v := .pointer _) rfl rfl) ?_
        refine seqQ rfl rfl (yMove (v := .int _ _) rfl rfl) ?_
        refine seqQ rfl rfl (yNilCheck rfl rfl) ?_
        refine seqQ rfl rfl (yFieldAddr rfl Try.underlying140 rfl Try.sizeOf3 rfl rfl) ?_
        -- e slot None: store T3 t30 t28
        refine seqE0 rfl rfl (stepStore rfl Try.sizeOf3 rfl rfl rfl rfl h8.blk (Nat.le_of_ble_eq_true rfl) ?_)
        intro H9 hB9 hK9
        have h9 := h8.store hB9 hK9 h.le
        refine seqNil ?_
        refine hF9 _ _ ?_; clear hF9
        refine wpSeq fun F10 hF10 => ?_
        refine wpRegion ?_
        refine seqQ rfl rfl (yLoadB (hB58.keep hK9 (by simp; omega)) rfl Try.underlying26 rfl Try.sizeOf26 rfl) ?_
        -- e slot None: store T26 t4 t31
        refine seqE0 rfl rfl (stepStoreB rfl (by kernel_rfl) rfl rfl rfl (hB48.keep hK9 (by simp; omega)) rfl ?_)
        intro Hz hBz hKz
        refine seqNil ?_
        refine hF10 _ _ ?_; clear hF10
        -- ret
        refine wpRet (finR1 rfl (resC Try.underlying26 rfl (by kernel_rfl) rfl hBz) ?_)
        exact ⟨keepNew (hK.trans hK9) hKz (by omega), .inr ⟨hp, h9.new h hKz (by omega), rfl⟩⟩
      · skip
        refine wpF rfl ?_
        refine wpSkip ?_
        refine hF7 _ _ ?_; clear hF7
        refine wpSeq fun F11 hF11 => ?_
        refine wpRegion ?_
        refine seqQ rfl rfl (yLoadB hB8 rfl Try.underlying26 rfl Try.sizeOf26 rfl) ?_
        -- e slot None: store T26 t4 t32
        refine seqE0 rfl rfl (stepStoreB rfl (by kernel_rfl) rfl rfl rfl hB48 rfl ?_)
        intro Hz hBz hKz
        refine seqNil ?_
        refine hF11 _ _ ?_; clear hF11
        -- ret
        refine wpRet (finR1 rfl (resC Try.underlying26 rfl (by kernel_rfl) rfl hBz) ?_)
        refine ⟨keepNew hK hKz (by omega), .inl ⟨a, k1, hp, h8.new h hKz (by omega), ?_⟩⟩
        exact ((hv.keep2 hx7 hK8 (by omega)).keep hKz (.inl (by omega))).mono (by omega)
    · skip
      refine wpT rfl ?_
      refine wpSeq fun F12 hF12 => ?_
      refine wpRegion ?_
      refine seqQ rfl rfl (yLoadB hB5 rfl Try.underlying26 rfl Try.sizeOf26 rfl) ?_
      -- e slot None: store T26 t4 t16
      refine seqE0 rfl rfl (stepStoreB rfl (by kernel_rfl) rfl rfl rfl hB45 rfl ?_)
      intro Hz hBz hKz
      refine seqNil ?_
      refine hF12 _ _ ?_; clear hF12
      -- ret
      refine wpRet (finR1 rfl (resC Try.underlying26 rfl (by kernel_rfl) rfl hBz) ?_)
      exact ⟨keepNew (hE.keep _) hKz (by omega), .inr ⟨rfl, h5.new h hKz (by omega), rfl⟩⟩
  refine callsH_of Try.func62 rfl Try.ntmps62 (Nat.le_of_ble_eq_true rfl) ?_
  refine wpSeq fun F1 hF1 => ?_
  refine wpRegion ?_
  refine seqN rfl rfl (nAlloc rfl Try.zeroValue26 rfl) (fun g2 H2 hx2 hB2 hg2 hl2 => ?_)
  refine seqNil ?_
  refine hF1 _ _ ?_; clear hF1
  refine wpSeq fun F2 hF2 => ?_
  refine wpRegion ?_
  refine seqQ rfl rfl (yMove (v := .pointer _) rfl rfl) ?_
  refine seqQ rfl rfl (yMove (v := .pointer _) rfl rfl) ?_
  refine seqQ rfl rfl (yMakeFunc (first := [.tmp 4]) (captured := []) (vs := [.pointer _]) (us := []) rfl rfl rfl) ?_
  -- e slot 6: call F88<farandole/wire.part[farandole/api.Event]> t3 t5
  refine seqE rfl rfl (stepCall rfl Try.call88 rfl ?_)
  refine (key H2 (h.ext hx2)).mono ?_
  rintro v H1 hr
  obtain ⟨hK1, hc1⟩ := hr
  obtain ⟨na, np, nl, ns, A, n, c, rfl⟩ : ∃ (na np nl : Int) (ns : Bool) (A : Option Addr) (n c : Nat), v = .agg [.int .i64 na, .bool ns, .int .i64 np, .int .i64 nl, .slice A n c].toArray := by
    rcases hc1 with ⟨_, _, _, _, hv⟩ | ⟨_, _, rfl⟩
    · exact hv.shape
    · exact ⟨_, _, _, _, _, _, _, rfl⟩
  have lg := h.blk.lt
  have s1 := hK1.size
  have s2 := hx2.size
  have hB21 := hB2.keep hK1 (by simp; omega)
  -- e slot None: store T26 t2 t6
  refine seqE0 rfl rfl (stepStoreB rfl (by kernel_rfl) rfl rfl rfl hB21 rfl ?_)
  intro Hz hBz hKz
  refine seqNil ?_
  refine hF2 _ _ ?_; clear hF2
  -- ret
  refine wpRet (finR1 rfl (resC Try.underlying26 rfl (by kernel_rfl) rfl hBz) ?_)
  have hKa : Keep [g] H Hz := keepNew ((hx2.keep [g]).trans hK1) hKz (by omega)
  have l2 := hB2.lt
  rcases hc1 with ⟨a, k', hp, hr, hv⟩ | ⟨hp, hr, e⟩
  · exact ⟨hKa, .inl ⟨a, k', hp, hr.new h hKz (by omega), (hv.keep hKz (.inl (by omega))).mono (by omega)⟩⟩
  · exact ⟨hKa, .inr ⟨hp, hr.new h hKz (by omega), e⟩⟩
end Go.Proofs.Ytbanngdijmglbaa
