/- Package transport: Start, Offer, Resend, Receive. -/
import Derived.Test.YtcfnmklbkhibgaaR1
namespace Go.Proofs.Ytcfnmklbkhibgaa
open Go.RowKit

def sd0 : Sd := ⟨0, false, pk0, 0, 0⟩
def sd1 : Sd := ⟨1, false, pk0, 0, 0⟩
def PkAt (H : Heap) (v : Value) (p : Pk) : Prop := ∃ A ca B cb, v = .agg (pkC p A ca B cb).toArray ∧ Rd eVal H A p.vals ∧ Rd eInt H B p.clk
def SdAt (H : Heap) (v : Value) (s : Sd) : Prop := ∃ A ca B cb, v = .agg (sdC s A ca B cb).toArray ∧ Rd eVal H A s.pk.vals ∧ Rd eInt H B s.pk.clk
/-- .. whose lists lie in blocks from n on. -/
def PkFr (n : Nat) (H : Heap) (v : Value) (p : Pk) : Prop := ∃ A ca B cb, v = .agg (pkC p A ca B cb).toArray ∧ RdM eVal (List.range n) H A p.vals ∧ RdM eInt (List.range n) H B p.clk
def SdFr (n : Nat) (H : Heap) (v : Value) (s : Sd) : Prop := ∃ A ca B cb, v = .agg (sdC s A ca B cb).toArray ∧ RdM eVal (List.range n) H A s.pk.vals ∧ RdM eInt (List.range n) H B s.pk.clk
set_option maxRecDepth 100000 in
theorem RdM.none {α : Type} {c : El α} (M : List Nat) (H : Heap) (A : Option Addr) : RdM c M H A [] := fun h => absurd rfl h
set_option maxRecDepth 100000 in
theorem RdM.fresh {α : Type} {c : El α} {n : Nat} {H : Heap} {A : Option Addr} {l : List α} (h : RdM c (List.range n) H A l) : ∃ F : List Nat, (∀ b ∈ F, n ≤ b ∧ b < H.size) ∧ ∀ M : List Nat, (∀ b ∈ M, b ∉ F) → RdM c M H A l := by
  by_cases hl : l = []
  · subst hl
    exact ⟨[], by simp, fun M _ => RdM.none _ _ _⟩
  · obtain ⟨p, e, hm, hc⟩ := h hl
    have hlt : p.block < H.size := by
      obtain ⟨q, e', hq⟩ := h.rd.lt (List.length_pos_iff.2 hl)
      rw [e] at e'
      obtain rfl := Option.some.inj e'
      exact hq
    refine ⟨[p.block], fun b hb => ?_, fun M hM _ => ⟨p, e, fun hb => hM _ hb (by simp), hc⟩⟩
    simp at hb
    subst hb
    exact ⟨by simpa using hm, hlt⟩
set_option maxRecDepth 100000 in
theorem PkAt.ext {H H' : Heap} {v : Value} {p : Pk} (h : PkAt H v p) (hx : Ext H H') : PkAt H' v p := by
  obtain ⟨A, ca, B, cb, e, h1, h2⟩ := h
  exact ⟨A, ca, B, cb, e, h1.ext hx, h2.ext hx⟩
set_option maxRecDepth 100000 in
theorem SdAt.ext {H H' : Heap} {v : Value} {s : Sd} (h : SdAt H v s) (hx : Ext H H') : SdAt H' v s := by
  obtain ⟨A, ca, B, cb, e, h1, h2⟩ := h
  exact ⟨A, ca, B, cb, e, h1.ext hx, h2.ext hx⟩
set_option maxRecDepth 100000 in
theorem start_c (H : Heap) : CallsH Try.prog 9 [] H fun v H' => v = .agg (sdC sd1 none 0 none 0).toArray ∧ Ext H H' := by
  refine callsH_of Try.func9 rfl Try.ntmps9 (Nat.le_of_ble_eq_true rfl) ?_
  refine wpSeq fun F1 hF1 => ?_
  refine wpRegion ?_
  refine seqN rfl rfl (nAlloc rfl Try.zeroValue29 rfl) (fun g0 H0 hx0 hB0 hg0 hl0 => ?_)
  refine seqNil ?_
  refine hF1 _ _ ?_; clear hF1
  refine wpSeq fun F2 hF2 => ?_
  refine wpRegion ?_
  refine seqQ rfl rfl (yBuild (pl := [(0, 1), (1, 1), (2, 9), (11, 1), (12, 1)]) (vs := [(0, .int _ _)]) rfl Try.underlying29 Try.zeroValue29 rfl (by unfold Places; kernel_rfl) rfl rfl) ?_
  -- e slot None: store T29 t0 t1
  refine seqE0 rfl rfl (stepStoreB rfl (by kernel_rfl) rfl rfl rfl hB0 rfl ?_)
  intro H1 hB1 hK1
  refine seqNil ?_
  refine hF2 _ _ ?_; clear hF2
  -- ret
  refine wpRet (finR1 rfl (resC Try.underlying29 rfl (by kernel_rfl) rfl hB1) ?_)
  exact ⟨rfl, hx0.mine hK1 (by simp; omega)⟩
def msg (n : Int) : Pk := ⟨1, 1, 0, 0, 1, 1, n, [], []⟩
set_option maxRecDepth 100000 in
theorem message_c (n : Int) (H : Heap) : CallsH Try.prog 10 [.int .i64 n] H fun v H' => v = .agg (pkC (msg n) none 0 none 0).toArray ∧ Ext H H' := by
  refine callsH_of Try.func10 rfl Try.ntmps10 (Nat.le_of_ble_eq_true rfl) ?_
  refine wpSeq fun F1 hF1 => ?_
  refine wpRegion ?_
  refine seqN rfl rfl (nAlloc rfl Try.zeroValue27 rfl) (fun g2 H2 hx2 hB2 hg2 hl2 => ?_)
  refine seqNil ?_
  refine hF1 _ _ ?_; clear hF1
  refine wpSeq fun F2 hF2 => ?_
  refine wpRegion ?_
  refine seqQ rfl rfl (yMove (v := .int _ _) rfl rfl) ?_
  refine seqQ rfl rfl (yBuild (pl := [(0, 1), (1, 1), (2, 1), (3, 1), (4, 1), (5, 1), (6, 1), (7, 1), (8, 1)]) (vs := [(0, .int _ _), (1, .int _ _), (4, .int _ _), (5, .int _ _), (6, .int _ _)]) rfl Try.underlying27 Try.zeroValue27 rfl (by unfold Places; kernel_rfl) rfl rfl) ?_
  -- e slot None: store T27 t2 t4
  refine seqE0 rfl rfl (stepStoreB rfl (by kernel_rfl) rfl rfl rfl hB2 rfl ?_)
  intro H1 hB1 hK1
  refine seqNil ?_
  refine hF2 _ _ ?_; clear hF2
  -- ret
  refine wpRet (finR1 rfl (resC Try.underlying27 rfl (by kernel_rfl) rfl hB1) ?_)
  exact ⟨rfl, hx2.mine hK1 (by simp; omega)⟩
def TimeP (n : Int) : Prop := 0 ≤ n ∧ n ≤ 1099511627776
instance (n : Int) : Decidable (TimeP n) := by unfold TimeP; infer_instance
def offerF (s : Sd) (p : Pk) (now : Int) : Int × Sd × Pk :=
  if ¬ SdP s ∨ ¬ TimeP now then (1, sd0, pk0)
  else if s.busy = true then (19, sd0, pk0)
  else if 1099511627776 < s.next then (6, sd0, pk0)
  else if p.kind ≠ 1 ∨ ¬ ValidP { p with seq := s.next } then (1, sd0, pk0)
  else (0, ⟨s.next + 1, true, { p with seq := s.next }, now + 8, 1⟩, { p with seq := s.next })
set_option maxRecDepth 100000 in
theorem offer_c (s : Sd) (p : Pk) (now : Int) (A B C D : Option Addr) (ca cb cc cd : Nat) (H : Heap) (hA : Rd eVal H A s.pk.vals) (hB : Rd eInt H B s.pk.clk) (hC : Rd eVal H C p.vals) (hD : Rd eInt H D p.clk)
    (h1 : s.pk.vals.length ≤ 1000000000) (h2 : s.pk.clk.length ≤ 1000000000) (h3 : p.vals.length ≤ 1000000000) (h4 : p.clk.length ≤ 1000000000) :
    CallsH Try.prog 8 [.agg (sdC s A ca B cb).toArray, .agg (pkC p C cc D cd).toArray, .int .i64 now] H fun v H' => ∃ vs vp, v = .tuple #[vs, vp, .int .i64 (offerF s p now).1] ∧ SdFr H.size H' vs (offerF s p now).2.1 ∧ PkFr H.size H' vp (offerF s p now).2.2 ∧ Ext H H' := by
  refine callsH_of Try.func8 rfl Try.ntmps8 (Nat.le_of_ble_eq_true rfl) ?_
  refine wpSeq fun F1 hF1 => ?_
  refine wpRegion ?_
  refine seqN rfl rfl (nBoxA rfl rfl) (fun g3 H3 hx3 hB3 hg3 hl3 => ?_)
  refine seqN rfl rfl (nBoxA rfl rfl) (fun g4 H4 hx4 hB4 hg4 hl4 => ?_)
  refine seqN rfl rfl (nAlloc rfl Try.zeroValue29 rfl) (fun g6 H6 hx6 hB6 hg6 hl6 => ?_)
  refine seqN rfl rfl (nAlloc rfl Try.zeroValue27 rfl) (fun g7 H7 hx7 hB7 hg7 hl7 => ?_)
  refine seqQ rfl rfl (yAssign (v := .int _ _) rfl rfl) ?_
  refine seqNil ?_
  refine hF1 _ _ ?_; clear hF1
  refine wpSeq fun F2 hF2 => ?_
  refine wpBlock ?_
  refine wpSeq fun F3 hF3 => ?_
  -- region 1
  have hE := ((hx3.trans hx4).trans hx6).trans hx7
  have s3 := hx3.size
  have s4 := hx4.size
  have s6 := hx6.size
  have s7 := hx7.size
  replace hB3 := ((hB3.ext hx4).ext hx6).ext hx7
  replace hB4 := (hB4.ext hx6).ext hx7
  replace hB6 := hB6.ext hx7
  clear hx3 hx4 hx6 hx7
  refine cutF [9, 10, 11, 12, 13, 14, 15, 16, 17] (fun _ : Unit => [(9, .bool (decide (¬ SdP s ∨ ¬ TimeP now)))]) (fun _ H' => Ext H7 H') hF3 ?_ (fun hC => ?_)
  · skip
    rintro ⟨⟩ J1 H8 hx8
    have s8 := hx8.size
    replace hE := hE.trans hx8
    replace hB3 := hB3.ext hx8
    replace hB4 := hB4.ext hx8
    replace hB6 := hB6.ext hx8
    replace hB7 := hB7.ext hx8
    clear hx8
    -- if t9
    refine wpIf rfl (fun h9 => ?_) (fun h9 => ?_)
    · skip
      refine wpSeq fun F4 hF4 => ?_
      refine wpRegion ?_
      refine seqQ rfl rfl (yBuild (pl := [(0, 1), (1, 1), (2, 9), (11, 1), (12, 1)]) (vs := []) rfl Try.underlying29 Try.zeroValue29 rfl (by unfold Places; kernel_rfl) rfl rfl) ?_
      refine seqQ rfl rfl (yBuild (pl := [(0, 1), (1, 1), (2, 1), (3, 1), (4, 1), (5, 1), (6, 1), (7, 1), (8, 1)]) (vs := []) rfl Try.underlying27 Try.zeroValue27 rfl (by unfold Places; kernel_rfl) rfl rfl) ?_
      -- e slot None: store T29 t6 t18
      refine seqE0 rfl rfl (stepStoreB rfl (by kernel_rfl) rfl rfl rfl hB6 rfl ?_)
      intro H20 hB20 hK20
      -- e slot None: store T27 t7 t19
      refine seqE0 rfl rfl (stepStoreB rfl (by kernel_rfl) rfl rfl rfl (hB7.keep hK20 (by simp; omega)) rfl ?_)
      intro H21 hB21 hK21
      refine seqQ rfl rfl (yAssign (v := .int _ _) rfl rfl) ?_
      refine seqNil ?_
      refine hF4 _ _ ?_; clear hF4
      -- ret
      refine wpRet (finR3 rfl (resC Try.underlying29 rfl (by kernel_rfl) rfl (hB20.keep hK21 (by simp; omega))) (resC Try.underlying27 rfl (by kernel_rfl) rfl hB21) (resT (v := .int _ _) rfl) ?_)
      rw [(show offerF s p now = (1, sd0, pk0) from by unfold offerF; rw [if_pos h9])]
      exact ⟨_, _, rfl, ⟨none, 0, none, 0, rfl, RdM.none _ _ _, RdM.none _ _ _⟩, ⟨none, 0, none, 0, rfl, RdM.none _ _ _, RdM.none _ _ _⟩, (hE.mine hK20 (by simp; omega)).mine hK21 (by simp; omega)⟩
    · skip
      refine wpSeq fun F5 hF5 => ?_
      refine wpRegion ?_
      refine seqQ rfl rfl (yFieldAddr rfl Try.underlying29 rfl Try.sizeOf4 rfl rfl) ?_
      refine seqQ rfl rfl (yLoad rfl Try.underlying4 rfl rfl (hB3.cell rfl)) ?_
      refine seqQ rfl rfl (yAssign (v := .bool _) rfl rfl) ?_
      refine seqNil ?_
      refine hF5 _ _ ?_; clear hF5
      -- if t20
      refine wpCond rfl (fun hb => ?_) (fun hb => ?_)
      · skip
        refine wpSeq fun F6 hF6 => ?_
        refine wpRegion ?_
        refine seqQ rfl rfl (yBuild (pl := [(0, 1), (1, 1), (2, 9), (11, 1), (12, 1)]) (vs := []) rfl Try.underlying29 Try.zeroValue29 rfl (by unfold Places; kernel_rfl) rfl rfl) ?_
        refine seqQ rfl rfl (yBuild (pl := [(0, 1), (1, 1), (2, 1), (3, 1), (4, 1), (5, 1), (6, 1), (7, 1), (8, 1)]) (vs := []) rfl Try.underlying27 Try.zeroValue27 rfl (by unfold Places; kernel_rfl) rfl rfl) ?_
        -- e slot None: store T29 t6 t23
        refine seqE0 rfl rfl (stepStoreB rfl (by kernel_rfl) rfl rfl rfl hB6 rfl ?_)
        intro H20 hB20 hK20
        -- e slot None: store T27 t7 t24
        refine seqE0 rfl rfl (stepStoreB rfl (by kernel_rfl) rfl rfl rfl (hB7.keep hK20 (by simp; omega)) rfl ?_)
        intro H21 hB21 hK21
        refine seqQ rfl rfl (yAssign (v := .int _ _) rfl rfl) ?_
        refine seqNil ?_
        refine hF6 _ _ ?_; clear hF6
        -- ret
        refine wpRet (finR3 rfl (resC Try.underlying29 rfl (by kernel_rfl) rfl (hB20.keep hK21 (by simp; omega))) (resC Try.underlying27 rfl (by kernel_rfl) rfl hB21) (resT (v := .int _ _) rfl) ?_)
        rw [(show offerF s p now = (19, sd0, pk0) from by unfold offerF; rw [if_neg h9, if_pos hb])]
        exact ⟨_, _, rfl, ⟨none, 0, none, 0, rfl, RdM.none _ _ _, RdM.none _ _ _⟩, ⟨none, 0, none, 0, rfl, RdM.none _ _ _, RdM.none _ _ _⟩, (hE.mine hK20 (by simp; omega)).mine hK21 (by simp; omega)⟩
      · skip
        refine wpSeq fun F7 hF7 => ?_
        refine wpRegion ?_
        refine seqQ rfl rfl (yFieldAddr rfl Try.underlying29 rfl Try.sizeOf3 rfl rfl) ?_
        refine seqQ rfl rfl (yLoad rfl Try.underlying3 rfl rfl (hB3.cell rfl)) ?_
        refine seqQ rfl rfl (yGtr rfl rfl rfl) ?_
        refine seqQ rfl rfl (yAssign (v := .bool _) rfl rfl) ?_
        refine seqNil ?_
        refine hF7 _ _ ?_; clear hF7
        -- if t25
        refine wpIf rfl (fun hn => ?_) (fun hn => ?_)
        · skip
          refine wpSeq fun F8 hF8 => ?_
          refine wpRegion ?_
          refine seqQ rfl rfl (yBuild (pl := [(0, 1), (1, 1), (2, 9), (11, 1), (12, 1)]) (vs := []) rfl Try.underlying29 Try.zeroValue29 rfl (by unfold Places; kernel_rfl) rfl rfl) ?_
          refine seqQ rfl rfl (yBuild (pl := [(0, 1), (1, 1), (2, 1), (3, 1), (4, 1), (5, 1), (6, 1), (7, 1), (8, 1)]) (vs := []) rfl Try.underlying27 Try.zeroValue27 rfl (by unfold Places; kernel_rfl) rfl rfl) ?_
          -- e slot None: store T29 t6 t29
          refine seqE0 rfl rfl (stepStoreB rfl (by kernel_rfl) rfl rfl rfl hB6 rfl ?_)
          intro H20 hB20 hK20
          -- e slot None: store T27 t7 t30
          refine seqE0 rfl rfl (stepStoreB rfl (by kernel_rfl) rfl rfl rfl (hB7.keep hK20 (by simp; omega)) rfl ?_)
          intro H21 hB21 hK21
          refine seqQ rfl rfl (yAssign (v := .int _ _) rfl rfl) ?_
          refine seqNil ?_
          refine hF8 _ _ ?_; clear hF8
          -- ret
          refine wpRet (finR3 rfl (resC Try.underlying29 rfl (by kernel_rfl) rfl (hB20.keep hK21 (by simp; omega))) (resC Try.underlying27 rfl (by kernel_rfl) rfl hB21) (resT (v := .int _ _) rfl) ?_)
          rw [(show offerF s p now = (6, sd0, pk0) from by unfold offerF; rw [if_neg h9, if_neg (by simp [hb]), if_pos hn])]
          exact ⟨_, _, rfl, ⟨none, 0, none, 0, rfl, RdM.none _ _ _, RdM.none _ _ _⟩, ⟨none, 0, none, 0, rfl, RdM.none _ _ _, RdM.none _ _ _⟩, (hE.mine hK20 (by simp; omega)).mine hK21 (by simp; omega)⟩
        · skip
          refine wpSkip ?_
          refine hF2 _ _ ?_; clear hF2
          refine wpSeq fun F9 hF9 => ?_
          refine wpRegion ?_
          refine seqQ rfl rfl (yLoadB hB4 rfl Try.underlying27 rfl Try.sizeOf27 rfl) ?_
          -- e slot 32: call F29<farandole/transport.clone> t31
          refine seqE rfl rfl (stepCall rfl Try.call29 rfl ?_)
          refine (clone_c p C D cc cd _ (hC.ext hE) (hD.ext hE) h3 h4).mono ?_
          rintro v H9 ⟨hx9, C', cc', D', cd', rfl, hfr⟩
          obtain ⟨hrC, hrD⟩ := hfr ([g4, g6, g7] ++ List.range H.size) (lt_app (by simp; omega) (fun b hb => by have := List.mem_range.1 hb; omega))
          -- e slot None: store T27 t4 t32
          refine seqE0 rfl rfl (stepStoreB rfl (by kernel_rfl) rfl rfl rfl (hB4.ext hx9) rfl ?_)
          intro H10 hB10 hK10
          have s9 := hx9.size
          have hE10 := (hE.trans hx9).mine hK10 (by simp; omega)
          have hB3' := (hB3.ext hx9).keep hK10 (by simp; omega)
          refine seqNil ?_
          refine hF9 _ _ ?_; clear hF9
          refine wpSeq fun F10 hF10 => ?_
          refine wpRegion ?_
          refine seqQ rfl rfl (yFieldAddr rfl Try.underlying29 rfl Try.sizeOf3 rfl rfl) ?_
          refine seqQ rfl rfl (yLoad rfl Try.underlying3 rfl rfl (hB3'.cell rfl)) ?_
          refine seqQ rfl rfl (yFieldAddr rfl Try.underlying27 rfl Try.sizeOf3 rfl rfl) ?_
          -- e slot None: store T3 t35 t34
          refine seqE0 rfl rfl (stepStore rfl Try.sizeOf3 rfl rfl rfl rfl hB10 (Nat.le_of_ble_eq_true rfl) ?_)
          intro H11 hB11 hK11
          replace hB11 : Blk H11 g4 (pkC { p with seq := s.next } C' cc' D' cd') 27 := hB11
          have hK := hK10.trans hK11
          have s11 := hK.size
          replace hE := (hE.trans hx9).mine hK (by simp; omega)
          replace hB3 := (hB3.ext hx9).keep hK (by simp; omega)
          replace hB6 := (hB6.ext hx9).keep hK (by simp; omega)
          replace hB7 := (hB7.ext hx9).keep hK (by simp; omega)
          replace hrC := hrC.tr (Tr.store hK (by simp))
          replace hrD := hrD.tr (Tr.store hK (by simp))
          clear hK10 hK11 hE10 hB3' hB10 hK hB4
          refine seqNil ?_
          refine hF10 _ _ ?_; clear hF10
          refine wpSeq fun F11 hF11 => ?_
          refine wpSeq fun F12 hF12 => ?_
          -- region 9
          refine cutF [36, 37, 38, 39, 40, 41, 42, 43] (fun _ : Unit => [(43, .bool (decide (p.kind ≠ 1 ∨ ¬ ValidP { p with seq := s.next })))]) (fun _ H' => Ext H11 H') hF12 ?_ (fun hC => ?_)
          · skip
            rintro ⟨⟩ J2 H12 hx12
            have s12 := hx12.size
            replace hE := hE.trans hx12
            replace hB3 := hB3.ext hx12
            replace hB11 := hB11.ext hx12
            replace hB6 := hB6.ext hx12
            replace hB7 := hB7.ext hx12
            replace hrC := hrC.tr (Tr.of_ext hx12 _)
            replace hrD := hrD.tr (Tr.of_ext hx12 _)
            clear hx12
            -- if t43
            refine wpIf rfl (fun hv => ?_) (fun hv => ?_)
            · skip
              refine wpSeq fun F13 hF13 => ?_
              refine wpRegion ?_
              refine seqQ rfl rfl (yBuild (pl := [(0, 1), (1, 1), (2, 9), (11, 1), (12, 1)]) (vs := []) rfl Try.underlying29 Try.zeroValue29 rfl (by unfold Places; kernel_rfl) rfl rfl) ?_
              refine seqQ rfl rfl (yBuild (pl := [(0, 1), (1, 1), (2, 1), (3, 1), (4, 1), (5, 1), (6, 1), (7, 1), (8, 1)]) (vs := []) rfl Try.underlying27 Try.zeroValue27 rfl (by unfold Places; kernel_rfl) rfl rfl) ?_
              -- e slot None: store T29 t6 t44
              refine seqE0 rfl rfl (stepStoreB rfl (by kernel_rfl) rfl rfl rfl hB6 rfl ?_)
              intro H20 hB20 hK20
              -- e slot None: store T27 t7 t45
              refine seqE0 rfl rfl (stepStoreB rfl (by kernel_rfl) rfl rfl rfl (hB7.keep hK20 (by simp; omega)) rfl ?_)
              intro H21 hB21 hK21
              refine seqQ rfl rfl (yAssign (v := .int _ _) rfl rfl) ?_
              refine seqNil ?_
              refine hF13 _ _ ?_; clear hF13
              -- ret
              refine wpRet (finR3 rfl (resC Try.underlying29 rfl (by kernel_rfl) rfl (hB20.keep hK21 (by simp; omega))) (resC Try.underlying27 rfl (by kernel_rfl) rfl hB21) (resT (v := .int _ _) rfl) ?_)
              rw [(show offerF s p now = (1, sd0, pk0) from by unfold offerF; rw [if_neg h9, if_neg (by simp [hb]), if_neg hn, if_pos hv])]
              exact ⟨_, _, rfl, ⟨none, 0, none, 0, rfl, RdM.none _ _ _, RdM.none _ _ _⟩, ⟨none, 0, none, 0, rfl, RdM.none _ _ _, RdM.none _ _ _⟩, (hE.mine hK20 (by simp; omega)).mine hK21 (by simp; omega)⟩
            · skip
              have hs : SdP s ∧ TimeP now := by grind
              have hs1 : 1 ≤ s.next := by have := hs.1; unfold SdP at this; exact this.1
              have hs2 : 0 ≤ now ∧ now ≤ 1099511627776 := hs.2
              have hf : offerF s p now = (0, ⟨s.next + 1, true, { p with seq := s.next }, now + 8, 1⟩, { p with seq := s.next }) := by unfold offerF; rw [if_neg h9, if_neg (by simp [hb]), if_neg hn, if_neg hv]
              refine wpSkip ?_
              refine hF11 _ _ ?_; clear hF11
              refine wpSeq fun F14 hF14 => ?_
              refine wpRegionD Try_mixed [.q, .q, .q, .q, .q, .e, .q, .q, .q, .e, .e, .e, .q] 10 [0, 1, 3, 0, 0, 0, 48, 127, 0, 288, 1023, 2047, 4095] [] (by kernel_rfl) _ rfl [0, 1, 2, 3, 4, 5, 6, 7, 8, 9] rfl (by simp) ?_
              refine lexQ rfl rfl rfl rfl (fun H hM => (yFieldAddr rfl Try.underlying29 rfl Try.sizeOf3 rfl rfl)) ?_
              refine lexQ rfl rfl rfl rfl (fun H hM => (yLoad rfl Try.underlying3 rfl rfl (hM.ext.cell (hB3.cell rfl)))) ?_
              refine lexQ rfl rfl rfl rfl (fun H hM => (yAdd rfl rfl rfl (by unfold In64; omega))) ?_
              refine lexQ rfl rfl rfl rfl (fun H hM => (yLoadB (hB11.ext hM.ext) rfl Try.underlying27 rfl Try.sizeOf27 rfl)) ?_
              refine lexQ rfl rfl rfl rfl (fun H hM => (yMove (v := .int _ _) rfl rfl)) ?_
              -- e slot 51: call F31<farandole/transport.Interval> [i:i64:1]
              refine lexX0 rfl rfl rfl rfl rfl (by simp) (fun hM51 => stepCall rfl Try.call31 rfl ?_)
              refine (interval_c 1 _ (by unfold In64; omega)).mono ?_
              rintro v _ ⟨rfl, e⟩; obtain rfl := e.symm; clear e
              refine ⟨Ext.refl _, fun _ => ?_⟩
              rw [show ivl 1 = 8 from rfl]
              refine lexQ rfl rfl rfl rfl (fun H hM => (yAdd rfl rfl rfl (by unfold In64; omega))) ?_
              refine lexQ rfl rfl rfl rfl (fun H hM => (yBuild (pl := [(0, 1), (1, 1), (2, 9), (11, 1), (12, 1)]) (vs := [(0, .int _ _), (1, .bool _), (2, .agg _), (3, .int _ _), (4, .int _ _)]) rfl Try.underlying29 Try.zeroValue29 rfl (by unfold Places; kernel_rfl) rfl rfl)) ?_
              refine lexQ rfl rfl rfl rfl (fun H hM => (yLoadB (hB11.ext hM.ext) rfl Try.underlying27 rfl Try.sizeOf27 rfl)) ?_
              -- e slot 55: call F29<farandole/transport.clone> t54
              refine lexX0 rfl rfl rfl rfl rfl (by simp) (fun hM55 => stepCall rfl Try.call29 rfl ?_)
              refine (clone_c { p with seq := s.next } C' D' cc' cd' _ hrC.rd hrD.rd h3 h4).mono ?_
              rintro v H13 ⟨hx13, C2, cc2, D2, cd2, rfl, hfr2⟩
              obtain ⟨hrC2, hrD2⟩ := hfr2 ([g6, g7] ++ List.range H.size) (lt_app (by simp; omega) (fun b hb => by have := List.mem_range.1 hb; omega))
              refine ⟨hx13, fun _ => ?_⟩
              -- tail
              refine lexNil0 rfl (fun hM => ?_)
              have s13 := hx13.size
              -- e slot None: store T29 t6 t53
              refine seqE0 rfl rfl (stepStoreB rfl (by kernel_rfl) rfl rfl rfl (hB6.ext hx13) rfl ?_)
              intro H14 hB14 hK14
              -- e slot None: store T27 t7 t55
              refine seqE0 rfl rfl (stepStoreB rfl (by kernel_rfl) rfl rfl rfl ((hB7.ext hx13).keep hK14 (by simp; omega)) rfl ?_)
              intro H15 hB15 hK15
              refine seqQ rfl rfl (yAssign (v := .int _ _) rfl rfl) ?_
              refine seqNil ?_
              refine hF14 _ _ ?_; clear hF14
              -- ret
              refine wpRet (finR3 rfl (resC Try.underlying29 rfl (by kernel_rfl) rfl (hB14.keep hK15 (by simp; omega))) (resC Try.underlying27 rfl (by kernel_rfl) rfl hB15) (resT (v := .int _ _) rfl) ?_)
              rw [hf]
              refine ⟨_, _, rfl, ⟨C', cc', D', cd', rfl, ?_, ?_⟩, ⟨C2, cc2, D2, cd2, rfl, ?_, ?_⟩, ((hE.trans hx13).mine hK14 (by simp; omega)).mine hK15 (by simp; omega)⟩
              · exact (((hrC.tr (Tr.of_ext hx13 _)).tr (Tr.store hK14 (by simp))).tr (Tr.store hK15 (by simp))).tr (Tr.sub _ (fun b hb => List.mem_append.2 (.inr hb)))
              · exact (((hrD.tr (Tr.of_ext hx13 _)).tr (Tr.store hK14 (by simp))).tr (Tr.store hK15 (by simp))).tr (Tr.sub _ (fun b hb => List.mem_append.2 (.inr hb)))
              · exact ((hrC2.tr (Tr.store hK14 (by simp))).tr (Tr.store hK15 (by simp))).tr (Tr.sub _ (fun b hb => List.mem_append.2 (.inr hb)))
              · exact ((hrD2.tr (Tr.store hK14 (by simp))).tr (Tr.store hK15 (by simp))).tr (Tr.sub _ (fun b hb => List.mem_append.2 (.inr hb)))
          · skip
            refine wpRegion ?_
            refine seqQ rfl rfl (yFieldAddr rfl Try.underlying27 rfl Try.sizeOf3 rfl rfl) ?_
            refine seqQ rfl rfl (yLoad rfl Try.underlying3 rfl rfl (hB11.cell rfl)) ?_
            refine seqQ rfl rfl (yNeq rfl rfl rfl) ?_
            first | refine seqG rfl rfl rfl rfl (fun h39 => ?_) (fun h39 => ?_) | refine seqGB rfl rfl rfl rfl (fun h39 => ?_) (fun h39 => ?_)
            · skip
              refine seqU rfl rfl ?_
              refine seqU rfl rfl ?_
              refine seqU rfl rfl ?_
              refine seqQ rfl rfl (yPickT (v := .bool _) rfl rfl rfl) ?_
              refine seqNil ?_
              exact hC () _ _ (by repeat (first | (with_reducible exact Agree.refl _ _) | refine Agree.upd ?_ rfl | refine Agree.over ?_ rfl)) ⟨by show Value.bool _ = Value.bool _; congr 1; grind, trivial⟩ (Ext.refl _)
            refine seqQ rfl rfl (yLoadB hB11 rfl Try.underlying27 rfl Try.sizeOf27 rfl) ?_
            -- e slot 41: call F30<farandole/packet.Valid> t40
            refine seqE rfl rfl (stepCall rfl Try.call30 rfl ?_)
            refine (pkValid_c { p with seq := s.next } C' D' cc' cd' _ hrC.rd hrD.rd).mono ?_
            rintro v H12 ⟨rfl, hx12⟩
            refine seqQ rfl rfl (yNot rfl rfl) ?_
            refine seqQ rfl rfl (yPickF (v := .bool _) rfl rfl rfl) ?_
            refine seqNil ?_
            -- end cut
            exact hC () _ _ (by repeat (first | (with_reducible exact Agree.refl _ _) | refine Agree.upd ?_ rfl | refine Agree.over ?_ rfl)) ⟨by show Value.bool _ = Value.bool _; congr 1; grind, trivial⟩ hx12
  · skip
    refine wpRegion ?_
    refine seqQ rfl rfl (yLoadB hB3 rfl Try.underlying29 rfl Try.sizeOf29 rfl) ?_
    -- e slot 11: call F21<farandole/transport.Valid> t10
    refine seqE rfl rfl (stepCall rfl Try.call21 rfl ?_)
    refine (sdValid_c s A B ca cb _ (hA.ext hE) (hB.ext hE) h1 h2).mono ?_
    rintro v H8 ⟨rfl, hx8⟩
    refine seqQ rfl rfl (yNot rfl rfl) ?_
    first | refine seqG rfl rfl rfl rfl (fun h13 => ?_) (fun h13 => ?_) | refine seqGB rfl rfl rfl rfl (fun h13 => ?_) (fun h13 => ?_)
    · skip
      refine seqU rfl rfl ?_
      refine seqU rfl rfl ?_
      refine seqU rfl rfl ?_
      refine seqQ rfl rfl (yPickT (v := .bool _) rfl rfl rfl) ?_
      refine seqQ rfl rfl (yAssign (v := .bool _) rfl rfl) ?_
      refine seqNil ?_
      exact hC () _ _ (by repeat (first | (with_reducible exact Agree.refl _ _) | refine Agree.upd ?_ rfl | refine Agree.over ?_ rfl)) ⟨by show Value.bool _ = Value.bool _; congr 1; grind [TimeP], trivial⟩ hx8
    refine seqQ rfl rfl (yMove (v := .int _ _) rfl rfl) ?_
    -- e slot 15: call F28<farandole/transport.proper> t14
    refine seqE rfl rfl (stepCall rfl Try.call28 rfl ?_)
    refine (time_c now _).mono ?_
    rintro v H9 ⟨rfl, rfl⟩
    refine seqQ rfl rfl (yNot rfl rfl) ?_
    refine seqQ rfl rfl (yPickF (v := .bool _) rfl rfl rfl) ?_
    refine seqQ rfl rfl (yAssign (v := .bool _) rfl rfl) ?_
    refine seqNil ?_
    -- end cut
    exact hC () _ _ (by repeat (first | (with_reducible exact Agree.refl _ _) | refine Agree.upd ?_ rfl | refine Agree.over ?_ rfl)) ⟨by show Value.bool _ = Value.bool _; congr 1; grind [TimeP], trivial⟩ hx8
end Go.Proofs.Ytcfnmklbkhibgaa
