/- The document's senders: Offer. -/
import Derived.Test.YtcfnmklbkhibgaaQ3
namespace Go.Proofs.Ytcfnmklbkhibgaa
open Go.RowKit

set_option maxRecDepth 100000 in
theorem rOffer_c (s : Sd) (p : Pk) (now : Int) (A B C D : Option Addr) (ca cb cc cd : Nat) (H : Heap) (hA : Rd eVal H A s.pk.vals) (hB : Rd eInt H B s.pk.clk) (hCv : Rd eVal H C p.vals) (hDv : Rd eInt H D p.clk)
    (h1 : s.pk.vals.length ≤ 1000000000) (h2 : s.pk.clk.length ≤ 1000000000) :
    CallsH Try.prog 15 [.agg (sdC s A ca B cb).toArray, .agg (pkC p C cc D cd).toArray, .int .i64 now] H fun v H' => ∃ vs vp, v = .tuple #[vs, vp, .int .i64 (offerF s p now).1] ∧ SdAt H' vs (offerF s p now).2.1 ∧ PkAt H' vp (offerF s p now).2.2 ∧ Ext H H' := by
  refine callsH_of Try.func15 rfl Try.ntmps15 (Nat.le_of_ble_eq_true rfl) ?_
  refine wpSeq fun F1 hF1 => ?_
  refine wpRegion ?_
  refine seqN rfl rfl (nBoxA rfl rfl) (fun g3 H3 hx3 hB3 hg3 hl3 => ?_)
  refine seqN rfl rfl (nBoxA rfl rfl) (fun g4 H4 hx4 hB4 hg4 hl4 => ?_)
  refine seqN rfl rfl (nAlloc rfl Try.zeroValue41 rfl) (fun g6 H6 hx6 hB6 hg6 hl6 => ?_)
  refine seqN rfl rfl (nAlloc rfl Try.zeroValue39 rfl) (fun g7 H7 hx7 hB7 hg7 hl7 => ?_)
  refine seqQ rfl rfl (yAssign (v := .int _ _) rfl rfl) ?_
  refine seqNil ?_
  refine hF1 _ _ ?_; clear hF1
  refine wpSeq fun F2 hF2 => ?_
  refine wpRegion ?_
  refine seqQ rfl rfl (yBuild (pl := [(0, 1), (1, 1), (2, 1), (3, 1), (4, 1), (5, 1), (6, 1), (7, 1), (8, 1)]) (vs := []) rfl Try.underlying39 Try.zeroValue39 rfl (by unfold Places; kernel_rfl) rfl rfl) ?_
  refine seqN rfl rfl (nAlloc rfl Try.zeroValue39 rfl) (fun g9 H9 hx9 hB9 hg9 hl9 => ?_)
  -- e slot None: store T39 t9 t10
  refine seqE0 rfl rfl (stepStoreB rfl (by kernel_rfl) rfl rfl rfl hB9 rfl ?_)
  intro Ha hB9' hKa
  have hE := (((hx3.trans hx4).trans hx6).trans hx7).trans hx9
  have s3 := hx3.size
  have s4 := hx4.size
  have s6 := hx6.size
  have s7 := hx7.size
  have s9 := hx9.size
  have sa := hKa.size
  replace hE := hE.mine hKa (by simp; omega)
  replace hB3 := ((((hB3.ext hx4).ext hx6).ext hx7).ext hx9).keep hKa (by simp; omega)
  replace hB4 := (((hB4.ext hx6).ext hx7).ext hx9).keep hKa (by simp; omega)
  replace hB6 := ((hB6.ext hx7).ext hx9).keep hKa (by simp; omega)
  replace hB7 := (hB7.ext hx9).keep hKa (by simp; omega)
  replace hB9 := hB9'
  clear hx3 hx4 hx6 hx7 hx9 hKa hB9'
  refine seqNil ?_
  refine hF2 _ _ ?_; clear hF2
  refine wpSeq fun F3 hF3 => ?_
  refine wpSeq fun F4 hF4 => ?_
  -- region 2
  refine cutF [11, 12, 13, 14, 15, 16, 17, 18] (fun _ : Unit => [(18, .bool (decide (¬ SdP s ∨ ¬ TimeP now)))]) (fun _ H' => Ext Ha H') hF4 ?_ (fun hC => ?_)
  · skip
    rintro ⟨⟩ J1 H8 hx8
    have s8 := hx8.size
    replace hE := hE.trans hx8
    replace hB3 := hB3.ext hx8
    replace hB4 := hB4.ext hx8
    replace hB6 := hB6.ext hx8
    replace hB7 := hB7.ext hx8
    replace hB9 := hB9.ext hx8
    clear hx8
    -- if t18
    refine wpIf rfl (fun h9 => ?_) (fun h9 => ?_)
    · skip
      refine wpSeq fun F5 hF5 => ?_
      refine wpRegionD Try_mixed [.q, .q, .e, .e, .q] 3 [0, 0, 1, 7, 15] [g6] (by kernel_rfl) _ rfl [0, 1, 2] rfl (by simp; omega) ?_
      refine lexQ rfl rfl rfl rfl (fun H hM => (yBuild (pl := [(0, 1), (1, 1), (2, 9), (11, 1), (12, 1)]) (vs := []) rfl Try.underlying41 Try.zeroValue41 rfl (by unfold Places; kernel_rfl) rfl rfl)) ?_
      refine lexQ rfl rfl rfl rfl (fun H hM => (yLoadB (hB9.keep hM (by first | (rw [block_of_add]; simp; omega) | (simp; omega))) rfl Try.underlying39 rfl Try.sizeOf39 rfl)) ?_
      -- e slot None: store T41 t6 t19
      refine lexE00 rfl rfl rfl rfl rfl (fun hMNone => stepStoreB rfl (by kernel_rfl) rfl rfl rfl hB6 rfl ?_)
      intro H20 hB20 hK20
      refine lexSt hK20 (by simp) (by simp; omega) ?_
      -- tail
      refine lexNil0 rfl (fun hM => ?_)
      -- e slot None: store T39 t7 t20
      refine seqE0 rfl rfl (stepStoreB rfl (by kernel_rfl) rfl rfl rfl (hB7.keep hK20 (by simp; omega)) rfl ?_)
      intro H21 hB21 hK21
      refine seqQ rfl rfl (yAssign (v := .int _ _) rfl rfl) ?_
      refine seqNil ?_
      refine hF5 _ _ ?_; clear hF5
      -- ret
      refine wpRet (finR3 rfl (resC Try.underlying41 rfl (by kernel_rfl) rfl (hB20.keep hK21 (by simp; omega))) (resC Try.underlying39 rfl (by kernel_rfl) rfl hB21) (resT (v := .int _ _) rfl) ?_)
      rw [(show offerF s p now = (1, sd0, pk0) from by unfold offerF; rw [if_pos h9])]
      exact ⟨_, _, rfl, ⟨none, 0, none, 0, rfl, Rd.nil _ _, Rd.nil _ _⟩, ⟨none, 0, none, 0, rfl, Rd.nil _ _, Rd.nil _ _⟩, (hE.mine hK20 (by simp; omega)).mine hK21 (by simp; omega)⟩
    · skip
      refine wpSkip ?_
      refine hF3 _ _ ?_; clear hF3
      refine wpSeq fun F6 hF6 => ?_
      refine wpSeq fun F7 hF7 => ?_
      refine wpRegion ?_
      refine seqQ rfl rfl (yFieldAddr rfl Try.underlying41 rfl Try.sizeOf4 rfl rfl) ?_
      refine seqQ rfl rfl (yLoad rfl Try.underlying4 rfl rfl (hB3.cell rfl)) ?_
      refine seqNil ?_
      refine hF7 _ _ ?_; clear hF7
      -- if t22
      refine wpCond rfl (fun hb => ?_) (fun hb => ?_)
      · skip
        refine wpSeq fun F8 hF8 => ?_
        refine wpRegionD Try_mixed [.q, .q, .e, .e, .q] 3 [0, 0, 1, 7, 15] [g6] (by kernel_rfl) _ rfl [0, 1, 2] rfl (by simp; omega) ?_
        refine lexQ rfl rfl rfl rfl (fun H hM => (yBuild (pl := [(0, 1), (1, 1), (2, 9), (11, 1), (12, 1)]) (vs := []) rfl Try.underlying41 Try.zeroValue41 rfl (by unfold Places; kernel_rfl) rfl rfl)) ?_
        refine lexQ rfl rfl rfl rfl (fun H hM => (yLoadB (hB9.keep hM (by first | (rw [block_of_add]; simp; omega) | (simp; omega))) rfl Try.underlying39 rfl Try.sizeOf39 rfl)) ?_
        -- e slot None: store T41 t6 t23
        refine lexE00 rfl rfl rfl rfl rfl (fun hMNone => stepStoreB rfl (by kernel_rfl) rfl rfl rfl hB6 rfl ?_)
        intro H20 hB20 hK20
        refine lexSt hK20 (by simp) (by simp; omega) ?_
        -- tail
        refine lexNil0 rfl (fun hM => ?_)
        -- e slot None: store T39 t7 t24
        refine seqE0 rfl rfl (stepStoreB rfl (by kernel_rfl) rfl rfl rfl (hB7.keep hK20 (by simp; omega)) rfl ?_)
        intro H21 hB21 hK21
        refine seqQ rfl rfl (yAssign (v := .int _ _) rfl rfl) ?_
        refine seqNil ?_
        refine hF8 _ _ ?_; clear hF8
        -- ret
        refine wpRet (finR3 rfl (resC Try.underlying41 rfl (by kernel_rfl) rfl (hB20.keep hK21 (by simp; omega))) (resC Try.underlying39 rfl (by kernel_rfl) rfl hB21) (resT (v := .int _ _) rfl) ?_)
        rw [(show offerF s p now = (19, sd0, pk0) from by unfold offerF; rw [if_neg h9, if_pos hb])]
        exact ⟨_, _, rfl, ⟨none, 0, none, 0, rfl, Rd.nil _ _, Rd.nil _ _⟩, ⟨none, 0, none, 0, rfl, Rd.nil _ _, Rd.nil _ _⟩, (hE.mine hK20 (by simp; omega)).mine hK21 (by simp; omega)⟩
      · skip
        refine wpSkip ?_
        refine hF6 _ _ ?_; clear hF6
        refine wpSeq fun F9 hF9 => ?_
        refine wpSeq fun F10 hF10 => ?_
        refine wpRegion ?_
        refine seqQ rfl rfl (yFieldAddr rfl Try.underlying41 rfl Try.sizeOf3 rfl rfl) ?_
        refine seqQ rfl rfl (yLoad rfl Try.underlying3 rfl rfl (hB3.cell rfl)) ?_
        refine seqQ rfl rfl (yGtr rfl rfl rfl) ?_
        refine seqNil ?_
        refine hF10 _ _ ?_; clear hF10
        -- if t27
        refine wpIf rfl (fun hn => ?_) (fun hn => ?_)
        · skip
          refine wpSeq fun F11 hF11 => ?_
          refine wpRegionD Try_mixed [.q, .q, .e, .e, .q] 3 [0, 0, 1, 7, 15] [g6] (by kernel_rfl) _ rfl [0, 1, 2] rfl (by simp; omega) ?_
          refine lexQ rfl rfl rfl rfl (fun H hM => (yBuild (pl := [(0, 1), (1, 1), (2, 9), (11, 1), (12, 1)]) (vs := []) rfl Try.underlying41 Try.zeroValue41 rfl (by unfold Places; kernel_rfl) rfl rfl)) ?_
          refine lexQ rfl rfl rfl rfl (fun H hM => (yLoadB (hB9.keep hM (by first | (rw [block_of_add]; simp; omega) | (simp; omega))) rfl Try.underlying39 rfl Try.sizeOf39 rfl)) ?_
          -- e slot None: store T41 t6 t28
          refine lexE00 rfl rfl rfl rfl rfl (fun hMNone => stepStoreB rfl (by kernel_rfl) rfl rfl rfl hB6 rfl ?_)
          intro H20 hB20 hK20
          refine lexSt hK20 (by simp) (by simp; omega) ?_
          -- tail
          refine lexNil0 rfl (fun hM => ?_)
          -- e slot None: store T39 t7 t29
          refine seqE0 rfl rfl (stepStoreB rfl (by kernel_rfl) rfl rfl rfl (hB7.keep hK20 (by simp; omega)) rfl ?_)
          intro H21 hB21 hK21
          refine seqQ rfl rfl (yAssign (v := .int _ _) rfl rfl) ?_
          refine seqNil ?_
          refine hF11 _ _ ?_; clear hF11
          -- ret
          refine wpRet (finR3 rfl (resC Try.underlying41 rfl (by kernel_rfl) rfl (hB20.keep hK21 (by simp; omega))) (resC Try.underlying39 rfl (by kernel_rfl) rfl hB21) (resT (v := .int _ _) rfl) ?_)
          rw [(show offerF s p now = (6, sd0, pk0) from by unfold offerF; rw [if_neg h9, if_neg (by simp [hb]), if_pos hn])]
          exact ⟨_, _, rfl, ⟨none, 0, none, 0, rfl, Rd.nil _ _, Rd.nil _ _⟩, ⟨none, 0, none, 0, rfl, Rd.nil _ _, Rd.nil _ _⟩, (hE.mine hK20 (by simp; omega)).mine hK21 (by simp; omega)⟩
        · skip
          refine wpSkip ?_
          refine hF9 _ _ ?_; clear hF9
          refine wpSeq fun F12 hF12 => ?_
          refine wpRegion ?_
          refine seqQ rfl rfl (yFieldAddr rfl Try.underlying41 rfl Try.sizeOf3 rfl rfl) ?_
          refine seqQ rfl rfl (yLoad rfl Try.underlying3 rfl rfl (hB3.cell rfl)) ?_
          refine seqQ rfl rfl (yFieldAddr rfl Try.underlying39 rfl Try.sizeOf3 rfl rfl) ?_
          -- e slot None: store T3 t32 t31
          refine seqE0 rfl rfl (stepStore rfl Try.sizeOf3 rfl rfl rfl rfl hB4 (Nat.le_of_ble_eq_true rfl) ?_)
          intro H11 hB11 hK
          replace hB11 : Blk H11 g4 (pkC { p with seq := s.next } C cc D cd) 39 := hB11
          have s11 := hK.size
          replace hE := hE.mine hK (by simp; omega)
          replace hB3 := hB3.keep hK (by simp; omega)
          replace hB6 := hB6.keep hK (by simp; omega)
          replace hB7 := hB7.keep hK (by simp; omega)
          replace hB9 := hB9.keep hK (by simp; omega)
          clear hK hB4
          refine seqNil ?_
          refine hF12 _ _ ?_; clear hF12
          refine wpSeq fun F13 hF13 => ?_
          refine wpSeq fun F14 hF14 => ?_
          -- region 9
          refine cutF [33, 34, 35, 36, 37, 38, 39, 40] (fun _ : Unit => [(40, .bool (decide (p.kind ≠ 1 ∨ ¬ ValidP { p with seq := s.next })))]) (fun _ H' => Ext H11 H') hF14 ?_ (fun hC => ?_)
          · skip
            rintro ⟨⟩ J2 H12 hx12
            have s12 := hx12.size
            replace hE := hE.trans hx12
            replace hB3 := hB3.ext hx12
            replace hB11 := hB11.ext hx12
            replace hB6 := hB6.ext hx12
            replace hB7 := hB7.ext hx12
            replace hB9 := hB9.ext hx12
            clear hx12
            -- if t40
            refine wpIf rfl (fun hv => ?_) (fun hv => ?_)
            · skip
              refine wpSeq fun F15 hF15 => ?_
              refine wpRegionD Try_mixed [.q, .q, .e, .e, .q] 3 [0, 0, 1, 7, 15] [g6] (by kernel_rfl) _ rfl [0, 1, 2] rfl (by simp; omega) ?_
              refine lexQ rfl rfl rfl rfl (fun H hM => (yBuild (pl := [(0, 1), (1, 1), (2, 9), (11, 1), (12, 1)]) (vs := []) rfl Try.underlying41 Try.zeroValue41 rfl (by unfold Places; kernel_rfl) rfl rfl)) ?_
              refine lexQ rfl rfl rfl rfl (fun H hM => (yLoadB (hB9.keep hM (by first | (rw [block_of_add]; simp; omega) | (simp; omega))) rfl Try.underlying39 rfl Try.sizeOf39 rfl)) ?_
              -- e slot None: store T41 t6 t41
              refine lexE00 rfl rfl rfl rfl rfl (fun hMNone => stepStoreB rfl (by kernel_rfl) rfl rfl rfl hB6 rfl ?_)
              intro H20 hB20 hK20
              refine lexSt hK20 (by simp) (by simp; omega) ?_
              -- tail
              refine lexNil0 rfl (fun hM => ?_)
              -- e slot None: store T39 t7 t42
              refine seqE0 rfl rfl (stepStoreB rfl (by kernel_rfl) rfl rfl rfl (hB7.keep hK20 (by simp; omega)) rfl ?_)
              intro H21 hB21 hK21
              refine seqQ rfl rfl (yAssign (v := .int _ _) rfl rfl) ?_
              refine seqNil ?_
              refine hF15 _ _ ?_; clear hF15
              -- ret
              refine wpRet (finR3 rfl (resC Try.underlying41 rfl (by kernel_rfl) rfl (hB20.keep hK21 (by simp; omega))) (resC Try.underlying39 rfl (by kernel_rfl) rfl hB21) (resT (v := .int _ _) rfl) ?_)
              rw [(show offerF s p now = (1, sd0, pk0) from by unfold offerF; rw [if_neg h9, if_neg (by simp [hb]), if_neg hn, if_pos hv])]
              exact ⟨_, _, rfl, ⟨none, 0, none, 0, rfl, Rd.nil _ _, Rd.nil _ _⟩, ⟨none, 0, none, 0, rfl, Rd.nil _ _, Rd.nil _ _⟩, (hE.mine hK20 (by simp; omega)).mine hK21 (by simp; omega)⟩
            · skip
              have hs : SdP s ∧ TimeP now := by grind
              have hs1 : 1 ≤ s.next := by have := hs.1; unfold SdP at this; exact this.1
              have hs2 : 0 ≤ now ∧ now ≤ 1099511627776 := hs.2
              have hf : offerF s p now = (0, ⟨s.next + 1, true, { p with seq := s.next }, now + 8, 1⟩, { p with seq := s.next }) := by unfold offerF; rw [if_neg h9, if_neg (by simp [hb]), if_neg hn, if_neg hv]
              refine wpSkip ?_
              refine hF13 _ _ ?_; clear hF13
              refine wpSeq fun F16 hF16 => ?_
              refine wpRegionD Try_mixed [.q, .q, .q, .q, .q, .e, .q, .q, .q, .e, .e, .q] 10 [0, 1, 3, 0, 0, 0, 48, 127, 0, 255, 1023, 2047] [g6] (by kernel_rfl) _ rfl [0, 1, 2, 3, 4, 5, 6, 7, 8, 9] rfl (by simp; omega) ?_
              refine lexQ rfl rfl rfl rfl (fun H hM => (yFieldAddr rfl Try.underlying41 rfl Try.sizeOf3 rfl rfl)) ?_
              refine lexQ rfl rfl rfl rfl (fun H hM => (yLoad rfl Try.underlying3 rfl rfl (hM.cell (hB3.cell rfl) (by first | (rw [block_of_add]; simp; omega) | (simp; omega))))) ?_
              refine lexQ rfl rfl rfl rfl (fun H hM => (yAdd rfl rfl rfl (by unfold In64; omega))) ?_
              refine lexQ rfl rfl rfl rfl (fun H hM => (yLoadB (hB11.keep hM (by first | (rw [block_of_add]; simp; omega) | (simp; omega))) rfl Try.underlying39 rfl Try.sizeOf39 rfl)) ?_
              refine lexQ rfl rfl rfl rfl (fun H hM => (yMove (v := .int _ _) rfl rfl)) ?_
              -- e slot 48: call F37<farandole/farandoleref50.Interval> [i:i64:1]
              refine lexX0 rfl rfl rfl rfl rfl (by simp; omega) (fun hM48 => stepCall rfl Try.call37 rfl ?_)
              refine (rInterval1_c _).mono ?_
              rintro v _ ⟨rfl, e⟩; obtain rfl := e.symm; clear e
              refine ⟨Ext.refl _, fun _ => ?_⟩
              refine lexQ rfl rfl rfl rfl (fun H hM => (yAdd rfl rfl rfl (by unfold In64; omega))) ?_
              refine lexQ rfl rfl rfl rfl (fun H hM => (yBuild (pl := [(0, 1), (1, 1), (2, 9), (11, 1), (12, 1)]) (vs := [(0, .int _ _), (1, .bool _), (2, .agg _), (3, .int _ _), (4, .int _ _)]) rfl Try.underlying41 Try.zeroValue41 rfl (by unfold Places; kernel_rfl) rfl rfl)) ?_
              refine lexQ rfl rfl rfl rfl (fun H hM => (yLoadB (hB11.keep hM (by first | (rw [block_of_add]; simp; omega) | (simp; omega))) rfl Try.underlying39 rfl Try.sizeOf39 rfl)) ?_
              -- e slot None: store T41 t6 t50
              refine lexE00 rfl rfl rfl rfl rfl (fun hMNone => stepStoreB rfl (by kernel_rfl) rfl rfl rfl hB6 rfl ?_)
              intro H14 hB14 hK14
              refine lexSt hK14 (by simp) (by simp; omega) ?_
              -- tail
              refine lexNil0 rfl (fun hM => ?_)
              -- e slot None: store T39 t7 t51
              refine seqE0 rfl rfl (stepStoreB rfl (by kernel_rfl) rfl rfl rfl (hB7.keep hK14 (by simp; omega)) rfl ?_)
              intro H15 hB15 hK15
              refine seqQ rfl rfl (yAssign (v := .int _ _) rfl rfl) ?_
              refine seqNil ?_
              refine hF16 _ _ ?_; clear hF16
              -- ret
              refine wpRet (finR3 rfl (resC Try.underlying41 rfl (by kernel_rfl) rfl (hB14.keep hK15 (by simp; omega))) (resC Try.underlying39 rfl (by kernel_rfl) rfl hB15) (resT (v := .int _ _) rfl) ?_)
              rw [hf]
              have hE' := (hE.mine hK14 (by simp; omega)).mine hK15 (by simp; omega)
              exact ⟨_, _, rfl, ⟨C, cc, D, cd, rfl, hCv.ext hE', hDv.ext hE'⟩, ⟨C, cc, D, cd, rfl, hCv.ext hE', hDv.ext hE'⟩, hE'⟩
          · skip
            refine wpRegion ?_
            refine seqQ rfl rfl (yLoadB hB11 rfl Try.underlying39 rfl Try.sizeOf39 rfl) ?_
            -- e slot 34: call F36<farandole/farandoleref46.Valid> t33
            refine seqE rfl rfl (stepCall rfl Try.call36 rfl ?_)
            refine (rValid_c { p with seq := s.next } C D cc cd _ (hCv.ext hE) (hDv.ext hE)).mono ?_
            rintro v H12 ⟨rfl, hx12⟩
            refine seqQ rfl rfl (yNot rfl rfl) ?_
            first | refine seqG rfl rfl rfl rfl (fun h36 => ?_) (fun h36 => ?_) | refine seqGB rfl rfl rfl rfl (fun h36 => ?_) (fun h36 => ?_)
            · skip
              refine seqU rfl rfl ?_
              refine seqU rfl rfl ?_
              refine seqU rfl rfl ?_
              refine seqQ rfl rfl (yPickT (v := .bool _) rfl rfl rfl) ?_
              refine seqNil ?_
              exact hC () _ _ (by repeat (first | (with_reducible exact Agree.refl _ _) | refine Agree.upd ?_ rfl | refine Agree.over ?_ rfl)) ⟨by show Value.bool _ = Value.bool _; congr 1; grind, trivial⟩ hx12
            refine seqQ rfl rfl (yFieldAddr rfl Try.underlying39 rfl Try.sizeOf3 rfl rfl) ?_
            refine seqQ rfl rfl (yLoad rfl Try.underlying3 rfl rfl ((hB11.ext hx12).cell rfl)) ?_
            refine seqQ rfl rfl (yNeq rfl rfl rfl) ?_
            refine seqQ rfl rfl (yPickF (v := .bool _) rfl rfl rfl) ?_
            refine seqNil ?_
            -- end cut
            exact hC () _ _ (by repeat (first | (with_reducible exact Agree.refl _ _) | refine Agree.upd ?_ rfl | refine Agree.over ?_ rfl)) ⟨by show Value.bool _ = Value.bool _; congr 1; grind, trivial⟩ hx12
  · skip
    refine wpRegion ?_
    refine seqQ rfl rfl (yLoadB hB3 rfl Try.underlying41 rfl Try.sizeOf41 rfl) ?_
    -- e slot 12: call F22<farandole/farandoleref50.Valid> t11
    refine seqE rfl rfl (stepCall rfl Try.call22 rfl ?_)
    refine (rSdValid_c s A B ca cb _ (hA.ext hE) (hB.ext hE) h1 h2).mono ?_
    rintro v H8 ⟨rfl, hx8⟩
    refine seqQ rfl rfl (yNot rfl rfl) ?_
    first | refine seqG rfl rfl rfl rfl (fun h14 => ?_) (fun h14 => ?_) | refine seqGB rfl rfl rfl rfl (fun h14 => ?_) (fun h14 => ?_)
    · skip
      refine seqU rfl rfl ?_
      refine seqU rfl rfl ?_
      refine seqU rfl rfl ?_
      refine seqQ rfl rfl (yPickT (v := .bool _) rfl rfl rfl) ?_
      refine seqNil ?_
      exact hC () _ _ (by repeat (first | (with_reducible exact Agree.refl _ _) | refine Agree.upd ?_ rfl | refine Agree.over ?_ rfl)) ⟨by show Value.bool _ = Value.bool _; congr 1; grind, trivial⟩ hx8
    refine seqQ rfl rfl (yMove (v := .int _ _) rfl rfl) ?_
    -- e slot 16: call F35<farandole/farandoleref50.proper> t15
    refine seqE rfl rfl (stepCall rfl Try.call35 rfl ?_)
    refine (rTime_c now _).mono ?_
    rintro v H9 ⟨rfl, rfl⟩
    refine seqQ rfl rfl (yNot rfl rfl) ?_
    refine seqQ rfl rfl (yPickF (v := .bool _) rfl rfl rfl) ?_
    refine seqNil ?_
    -- end cut
    exact hC () _ _ (by repeat (first | (with_reducible exact Agree.refl _ _) | refine Agree.upd ?_ rfl | refine Agree.over ?_ rfl)) ⟨by show Value.bool _ = Value.bool _; congr 1; grind, trivial⟩ hx8
end Go.Proofs.Ytcfnmklbkhibgaa
