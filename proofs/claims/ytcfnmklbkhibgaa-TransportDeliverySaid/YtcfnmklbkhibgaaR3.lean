/- Package transport: Resend, Receive; the first check. -/
import Derived.Test.YtcfnmklbkhibgaaR2
namespace Go.Proofs.Ytcfnmklbkhibgaa
open Go.RowKit

def DueP (s : Sd) (now : Int) : Prop := SdP s ∧ TimeP now ∧ s.busy = true ∧ s.due ≤ now ∧ s.tries ≠ 1099511627776
instance (s : Sd) (now : Int) : Decidable (DueP s now) := by unfold DueP; infer_instance
def resendF (s : Sd) (now : Int) : Sd × Pk × Bool :=
  if DueP s now then ({ s with tries := s.tries + 1, due := now + min (ivl (s.tries + 1)) 64 }, s.pk, true) else (s, pk0, false)
set_option maxRecDepth 100000 in
theorem ivl_range (n : Int) : 0 ≤ ivl n ∧ ivl n ≤ 64 := by unfold ivl; (repeat' split) <;> omega
set_option maxRecDepth 100000 in
theorem resend_c (s : Sd) (now : Int) (A B : Option Addr) (ca cb : Nat) (H : Heap) (hA : Rd eVal H A s.pk.vals) (hB : Rd eInt H B s.pk.clk) (h1 : s.pk.vals.length ≤ 1000000000) (h2 : s.pk.clk.length ≤ 1000000000) :
    CallsH Try.prog 11 [.agg (sdC s A ca B cb).toArray, .int .i64 now] H fun v H' => ∃ vs vp, v = .tuple #[vs, vp, .bool (resendF s now).2.2] ∧ SdAt H' vs (resendF s now).1 ∧ PkAt H' vp (resendF s now).2.1 ∧ Ext H H' := by
  refine callsH_of Try.func11 rfl Try.ntmps11 (Nat.le_of_ble_eq_true rfl) ?_
  refine wpSeq fun F1 hF1 => ?_
  refine wpRegion ?_
  refine seqN rfl rfl (nBoxA rfl rfl) (fun g2 H2 hx2 hB2 hg2 hl2 => ?_)
  refine seqN rfl rfl (nAlloc rfl Try.zeroValue29 rfl) (fun g4 H4 hx4 hB4 hg4 hl4 => ?_)
  refine seqN rfl rfl (nAlloc rfl Try.zeroValue27 rfl) (fun g5 H5 hx5 hB5 hg5 hl5 => ?_)
  refine seqQ rfl rfl (yAssign (v := .bool _) rfl rfl) ?_
  refine seqNil ?_
  refine hF1 _ _ ?_; clear hF1
  refine wpSeq fun F2 hF2 => ?_
  -- region 1
  have hE := (hx2.trans hx4).trans hx5
  have s2 := hx2.size
  have s4 := hx4.size
  have s5 := hx5.size
  replace hB2 := (hB2.ext hx4).ext hx5
  replace hB4 := hB4.ext hx5
  clear hx2 hx4 hx5
  refine wpRegion ?_
  refine seqQ rfl rfl (yFieldAddr rfl Try.underlying29 rfl Try.sizeOf27 rfl rfl) ?_
  refine seqQ rfl rfl (yLoadC (cs := pkC s.pk A ca B cb) rfl Try.underlying27 rfl Try.sizeOf27 rfl (hB2.sub rfl)) ?_
  -- e slot 9: call F29<farandole/transport.clone> t8
  refine seqE rfl rfl (stepCall rfl Try.call29 rfl ?_)
  refine (clone_c s.pk A B ca cb _ (hA.ext hE) (hB.ext hE) h1 h2).mono ?_
  rintro v H6 ⟨hx6, A1, ca1, B1, cb1, rfl, hfr⟩
  obtain ⟨hrA, hrB⟩ := hfr [g2, g4, g5] (by simp; omega)
  have s6 := hx6.size
  refine seqQ rfl rfl (yFieldAddr rfl Try.underlying29 rfl Try.sizeOf27 rfl rfl) ?_
  -- e slot None: store T27 t10 t9
  refine seqE0 rfl rfl (stepStoreSeg rfl (by kernel_rfl) rfl rfl rfl (hB2.ext hx6) (Nat.le_of_ble_eq_true rfl) ?_)
  intro H7 hB2' hK7
  replace hB2 : Blk H7 g2 (sdC s A1 ca1 B1 cb1) 29 := hB2'
  have s7 := hK7.size
  replace hE := (hE.trans hx6).mine hK7 (by simp; omega)
  replace hB4 := (hB4.ext hx6).keep hK7 (by simp; omega)
  replace hB5 := (hB5.ext hx6).keep hK7 (by simp; omega)
  replace hrA := hrA.tr (Tr.store hK7 (by simp))
  replace hrB := hrB.tr (Tr.store hK7 (by simp))
  clear hK7 hx6 hfr hB2'
  refine seqNil ?_
  refine hF2 _ _ ?_; clear hF2
  refine wpSeq fun F3 hF3 => ?_
  refine wpSeq fun F4 hF4 => ?_
  -- region 2
  refine cutF [11, 12, 13, 14, 15, 16, 17, 18, 19, 20, 21, 22, 23, 24, 25, 26, 27, 28, 29, 30, 31, 32, 33, 34] (fun _ : Unit => [(34, .bool (decide (¬ DueP s now)))]) (fun _ H' => Ext H7 H') hF4 ?_ (fun hC => ?_)
  · skip
    rintro ⟨⟩ J1 H8 hx8
    have s8 := hx8.size
    replace hE := hE.trans hx8
    replace hB2 := hB2.ext hx8
    replace hB4 := hB4.ext hx8
    replace hB5 := hB5.ext hx8
    replace hrA := hrA.tr (Tr.of_ext hx8 _)
    replace hrB := hrB.tr (Tr.of_ext hx8 _)
    clear hx8
    -- if t34
    refine wpIf rfl (fun hd => ?_) (fun hd => ?_)
    · skip
      refine wpSeq fun F5 hF5 => ?_
      refine wpRegion ?_
      refine seqQ rfl rfl (yLoadB hB2 rfl Try.underlying29 rfl Try.sizeOf29 rfl) ?_
      refine seqQ rfl rfl (yBuild (pl := [(0, 1), (1, 1), (2, 1), (3, 1), (4, 1), (5, 1), (6, 1), (7, 1), (8, 1)]) (vs := []) rfl Try.underlying27 Try.zeroValue27 rfl (by unfold Places; kernel_rfl) rfl rfl) ?_
      -- e slot None: store T29 t4 t35
      refine seqE0 rfl rfl (stepStoreB rfl (by kernel_rfl) rfl rfl rfl hB4 rfl ?_)
      intro H20 hB20 hK20
      -- e slot None: store T27 t5 t36
      refine seqE0 rfl rfl (stepStoreB rfl (by kernel_rfl) rfl rfl rfl (hB5.keep hK20 (by simp; omega)) rfl ?_)
      intro H21 hB21 hK21
      refine seqQ rfl rfl (yAssign (v := .bool _) rfl rfl) ?_
      refine seqNil ?_
      refine hF5 _ _ ?_; clear hF5
      -- ret
      refine wpRet (finR3 rfl (resC Try.underlying29 rfl (by kernel_rfl) rfl (hB20.keep hK21 (by simp; omega))) (resC Try.underlying27 rfl (by kernel_rfl) rfl hB21) (resT (v := .bool _) rfl) ?_)
      rw [show resendF s now = (s, pk0, false) from by unfold resendF; rw [if_neg hd]]
      exact ⟨_, _, rfl, ⟨A1, ca1, B1, cb1, rfl, ((hrA.tr (Tr.store hK20 (by simp))).tr (Tr.store hK21 (by simp))).rd, ((hrB.tr (Tr.store hK20 (by simp))).tr (Tr.store hK21 (by simp))).rd⟩, ⟨none, 0, none, 0, rfl, Rd.nil _ _, Rd.nil _ _⟩, (hE.mine hK20 (by simp; omega)).mine hK21 (by simp; omega)⟩
    · skip
      have hd : DueP s now := by simpa using hd
      have ht : 1 ≤ s.tries ∧ s.tries < 1099511627776 ∧ 0 ≤ now ∧ now ≤ 1099511627776 := by grind [DueP, SdP, TimeP]
      have hf : resendF s now = ({ s with tries := s.tries + 1, due := now + min (ivl (s.tries + 1)) 64 }, s.pk, true) := by unfold resendF; rw [if_pos hd]
      refine wpSkip ?_
      refine hF3 _ _ ?_; clear hF3
      refine wpSeq fun F6 hF6 => ?_
      refine wpRegion ?_
      refine seqQ rfl rfl (yFieldAddr rfl Try.underlying29 rfl Try.sizeOf3 rfl rfl) ?_
      refine seqQ rfl rfl (yLoad rfl Try.underlying3 rfl rfl (hB2.cell rfl)) ?_
      refine seqQ rfl rfl (yAdd rfl rfl rfl (by unfold In64; omega)) ?_
      refine seqQ rfl rfl (yFieldAddr rfl Try.underlying29 rfl Try.sizeOf3 rfl rfl) ?_
      -- e slot None: store T3 t40 t39
      refine seqE0 rfl rfl (stepStore rfl Try.sizeOf3 rfl rfl rfl rfl hB2 (Nat.le_of_ble_eq_true rfl) ?_)
      intro H9 hB9 hK9
      replace hB9 : Blk H9 g2 (sdC { s with tries := s.tries + 1 } A1 ca1 B1 cb1) 29 := hB9
      refine seqNil ?_
      refine hF6 _ _ ?_; clear hF6
      refine wpSeq fun F7 hF7 => ?_
      refine wpRegion ?_
      refine seqQ rfl rfl (yMove (v := .int _ _) rfl rfl) ?_
      refine seqQ rfl rfl (yFieldAddr rfl Try.underlying29 rfl Try.sizeOf3 rfl rfl) ?_
      refine seqQ rfl rfl (yLoad rfl Try.underlying3 rfl rfl (hB9.cell rfl)) ?_
      -- e slot 44: call F31<farandole/transport.Interval> t43
      refine seqE rfl rfl (stepCall rfl Try.call31 rfl ?_)
      refine (interval_c (s.tries + 1) _ (by unfold In64; omega)).mono ?_
      rintro v _ ⟨rfl, e⟩; obtain rfl := e.symm; clear e
      have hi := ivl_range (s.tries + 1)
      refine seqQ rfl rfl (yMin rfl rfl rfl) ?_
      refine seqQ rfl rfl (yAdd rfl rfl rfl (by unfold In64; omega)) ?_
      refine seqQ rfl rfl (yFieldAddr rfl Try.underlying29 rfl Try.sizeOf3 rfl rfl) ?_
      -- e slot None: store T3 t47 t46
      refine seqE0 rfl rfl (stepStore rfl Try.sizeOf3 rfl rfl rfl rfl hB9 (Nat.le_of_ble_eq_true rfl) ?_)
      intro H10 hB10 hK10
      replace hB10 : Blk H10 g2 (sdC { s with tries := s.tries + 1, due := now + min (ivl (s.tries + 1)) 64 } A1 ca1 B1 cb1) 29 := hB10
      have hK := hK9.trans hK10
      have sK := hK.size
      replace hE := hE.mine hK (by simp; omega)
      replace hB4 := hB4.keep hK (by simp; omega)
      replace hB5 := hB5.keep hK (by simp; omega)
      replace hrA := hrA.tr (Tr.store hK (by simp))
      replace hrB := hrB.tr (Tr.store hK (by simp))
      clear hK9 hK10 hB9 hK hB2
      refine seqNil ?_
      refine hF7 _ _ ?_; clear hF7
      refine wpSeq fun F8 hF8 => ?_
      refine wpRegionD Try_mixed [.q, .q, .q, .e, .e, .e, .q] 4 [0, 0, 2, 6, 15, 31, 63] [] (by kernel_rfl) _ rfl [0, 1, 2, 3] rfl (by simp) ?_
      refine lexQ rfl rfl rfl rfl (fun H hM => (yLoadB (hB10.ext hM.ext) rfl Try.underlying29 rfl Try.sizeOf29 rfl)) ?_
      refine lexQ rfl rfl rfl rfl (fun H hM => (yFieldAddr rfl Try.underlying29 rfl Try.sizeOf27 rfl rfl)) ?_
      refine lexQ rfl rfl rfl rfl (fun H hM => (yLoadC (cs := pkC s.pk A1 ca1 B1 cb1) rfl Try.underlying27 rfl Try.sizeOf27 rfl (fun j u hu => hM.ext.cell (hB10.sub rfl j u hu)))) ?_
      -- e slot 51: call F29<farandole/transport.clone> t50
      refine lexX0 rfl rfl rfl rfl rfl (by simp) (fun hM51 => stepCall rfl Try.call29 rfl ?_)
      refine (clone_c s.pk A1 B1 ca1 cb1 _ hrA.rd hrB.rd h1 h2).mono ?_
      rintro v H11 ⟨hx11, A2, ca2, B2, cb2, rfl, hfr2⟩
      refine ⟨hx11, fun _ => ?_⟩
      obtain ⟨hrA2, hrB2⟩ := hfr2 [g4, g5] (by simp; omega)
      have s11 := hx11.size
      -- tail
      refine lexNil0 rfl (fun hM => ?_)
      -- e slot None: store T29 t4 t48
      refine seqE0 rfl rfl (stepStoreB rfl (by kernel_rfl) rfl rfl rfl (hB4.ext hx11) rfl ?_)
      intro H14 hB14 hK14
      -- e slot None: store T27 t5 t51
      refine seqE0 rfl rfl (stepStoreB rfl (by kernel_rfl) rfl rfl rfl ((hB5.ext hx11).keep hK14 (by simp; omega)) rfl ?_)
      intro H15 hB15 hK15
      refine seqQ rfl rfl (yAssign (v := .bool _) rfl rfl) ?_
      refine seqNil ?_
      refine hF8 _ _ ?_; clear hF8
      -- ret
      refine wpRet (finR3 rfl (resC Try.underlying29 rfl (by kernel_rfl) rfl (hB14.keep hK15 (by simp; omega))) (resC Try.underlying27 rfl (by kernel_rfl) rfl hB15) (resT (v := .bool _) rfl) ?_)
      rw [hf]
      refine ⟨_, _, rfl, ⟨A1, ca1, B1, cb1, rfl, ?_, ?_⟩, ⟨A2, ca2, B2, cb2, rfl, ?_, ?_⟩, ((hE.trans hx11).mine hK14 (by simp; omega)).mine hK15 (by simp; omega)⟩
      · exact (((hrA.tr (Tr.of_ext hx11 _)).tr (Tr.store hK14 (by simp))).tr (Tr.store hK15 (by simp))).rd
      · exact (((hrB.tr (Tr.of_ext hx11 _)).tr (Tr.store hK14 (by simp))).tr (Tr.store hK15 (by simp))).rd
      · exact ((hrA2.tr (Tr.store hK14 (by simp))).tr (Tr.store hK15 (by simp))).rd
      · exact ((hrB2.tr (Tr.store hK14 (by simp))).tr (Tr.store hK15 (by simp))).rd
  · skip
    refine wpRegion ?_
    refine seqQ rfl rfl (yLoadB hB2 rfl Try.underlying29 rfl Try.sizeOf29 rfl) ?_
    -- e slot 12: call F21<farandole/transport.Valid> t11
    refine seqE rfl rfl (stepCall rfl Try.call21 rfl ?_)
    refine (sdValid_c s A1 B1 ca1 cb1 _ hrA.rd hrB.rd h1 h2).mono ?_
    rintro v H8 ⟨rfl, hx8⟩
    refine seqQ rfl rfl (yNot rfl rfl) ?_
    first | refine seqG rfl rfl rfl rfl (fun h14 => ?_) (fun h14 => ?_) | refine seqGB rfl rfl rfl rfl (fun h14 => ?_) (fun h14 => ?_)
    · skip
      refine seqU rfl rfl ?_
      refine seqU rfl rfl ?_
      refine seqU rfl rfl ?_
      refine seqQ rfl rfl (yPickT (v := .bool _) rfl rfl rfl) ?_
      refine seqQ rfl rfl (yMove (v := .bool true) rfl rfl) ?_
      refine seqU rfl rfl ?_
      refine seqU rfl rfl ?_
      refine seqU rfl rfl ?_
      refine seqQ rfl rfl (yPickT (v := .bool _) rfl rfl rfl) ?_
      refine seqQ rfl rfl (yMove (v := .bool true) rfl rfl) ?_
      refine seqU rfl rfl ?_
      refine seqU rfl rfl ?_
      refine seqU rfl rfl ?_
      refine seqU rfl rfl ?_
      refine seqQ rfl rfl (yPickT (v := .bool _) rfl rfl rfl) ?_
      refine seqQ rfl rfl (yMove (v := .bool true) rfl rfl) ?_
      refine seqU rfl rfl ?_
      refine seqU rfl rfl ?_
      refine seqU rfl rfl ?_
      refine seqQ rfl rfl (yPickT (v := .bool _) rfl rfl rfl) ?_
      refine seqNil ?_
      exact hC () _ _ (by repeat (first | (with_reducible exact Agree.refl _ _) | refine Agree.upd ?_ rfl | refine Agree.over ?_ rfl)) ⟨by show Value.bool _ = Value.bool _; congr 1; grind [DueP], trivial⟩ hx8
    refine seqQ rfl rfl (yMove (v := .int _ _) rfl rfl) ?_
    -- e slot 16: call F28<farandole/transport.proper> t15
    refine seqE rfl rfl (stepCall rfl Try.call28 rfl ?_)
    refine (time_c now _).mono ?_
    rintro v _ ⟨rfl, e⟩; obtain rfl := e.symm; clear e
    refine seqQ rfl rfl (yNot rfl rfl) ?_
    refine seqQ rfl rfl (yPickF (v := .bool _) rfl rfl rfl) ?_
    first | refine seqG rfl rfl rfl rfl (fun h19 => ?_) (fun h19 => ?_) | refine seqGB rfl rfl rfl rfl (fun h19 => ?_) (fun h19 => ?_)
    · skip
      refine seqU rfl rfl ?_
      refine seqU rfl rfl ?_
      refine seqU rfl rfl ?_
      refine seqQ rfl rfl (yPickT (v := .bool _) rfl rfl rfl) ?_
      refine seqQ rfl rfl (yMove (v := .bool true) rfl rfl) ?_
      refine seqU rfl rfl ?_
      refine seqU rfl rfl ?_
      refine seqU rfl rfl ?_
      refine seqU rfl rfl ?_
      refine seqQ rfl rfl (yPickT (v := .bool _) rfl rfl rfl) ?_
      refine seqQ rfl rfl (yMove (v := .bool true) rfl rfl) ?_
      refine seqU rfl rfl ?_
      refine seqU rfl rfl ?_
      refine seqU rfl rfl ?_
      refine seqQ rfl rfl (yPickT (v := .bool _) rfl rfl rfl) ?_
      refine seqNil ?_
      exact hC () _ _ (by repeat (first | (with_reducible exact Agree.refl _ _) | refine Agree.upd ?_ rfl | refine Agree.over ?_ rfl)) ⟨by show Value.bool _ = Value.bool _; congr 1; grind [DueP, TimeP], trivial⟩ hx8
    refine seqQ rfl rfl (yFieldAddr rfl Try.underlying29 rfl Try.sizeOf4 rfl rfl) ?_
    refine seqQ rfl rfl (yLoad rfl Try.underlying4 rfl rfl ((hB2.ext hx8).cell rfl)) ?_
    refine seqQ rfl rfl (yNot rfl rfl) ?_
    refine seqQ rfl rfl (yPickF (v := .bool _) rfl rfl rfl) ?_
    first | refine seqG rfl rfl rfl rfl (fun h24 => ?_) (fun h24 => ?_) | refine seqGB rfl rfl rfl rfl (fun h24 => ?_) (fun h24 => ?_)
    · skip
      refine seqU rfl rfl ?_
      refine seqU rfl rfl ?_
      refine seqU rfl rfl ?_
      refine seqU rfl rfl ?_
      refine seqQ rfl rfl (yPickT (v := .bool _) rfl rfl rfl) ?_
      refine seqQ rfl rfl (yMove (v := .bool true) rfl rfl) ?_
      refine seqU rfl rfl ?_
      refine seqU rfl rfl ?_
      refine seqU rfl rfl ?_
      refine seqQ rfl rfl (yPickT (v := .bool _) rfl rfl rfl) ?_
      refine seqNil ?_
      exact hC () _ _ (by repeat (first | (with_reducible exact Agree.refl _ _) | refine Agree.upd ?_ rfl | refine Agree.over ?_ rfl)) ⟨by show Value.bool _ = Value.bool _; congr 1; grind [DueP, TimeP], trivial⟩ hx8
    refine seqQ rfl rfl (yFieldAddr rfl Try.underlying29 rfl Try.sizeOf3 rfl rfl) ?_
    refine seqQ rfl rfl (yLoad rfl Try.underlying3 rfl rfl ((hB2.ext hx8).cell rfl)) ?_
    refine seqQ rfl rfl (yMove (v := .int _ _) rfl rfl) ?_
    refine seqQ rfl rfl (yGtr rfl rfl rfl) ?_
    refine seqQ rfl rfl (yPickF (v := .bool _) rfl rfl rfl) ?_
    first | refine seqG rfl rfl rfl rfl (fun h30 => ?_) (fun h30 => ?_) | refine seqGB rfl rfl rfl rfl (fun h30 => ?_) (fun h30 => ?_)
    · skip
      refine seqU rfl rfl ?_
      refine seqU rfl rfl ?_
      refine seqU rfl rfl ?_
      refine seqQ rfl rfl (yPickT (v := .bool _) rfl rfl rfl) ?_
      refine seqNil ?_
      exact hC () _ _ (by repeat (first | (with_reducible exact Agree.refl _ _) | refine Agree.upd ?_ rfl | refine Agree.over ?_ rfl)) ⟨by show Value.bool _ = Value.bool _; congr 1; grind [DueP, TimeP], trivial⟩ hx8
    refine seqQ rfl rfl (yFieldAddr rfl Try.underlying29 rfl Try.sizeOf3 rfl rfl) ?_
    refine seqQ rfl rfl (yLoad rfl Try.underlying3 rfl rfl ((hB2.ext hx8).cell rfl)) ?_
    refine seqQ rfl rfl (yEql rfl rfl rfl) ?_
    refine seqQ rfl rfl (yPickF (v := .bool _) rfl rfl rfl) ?_
    refine seqNil ?_
    -- end cut
    exact hC () _ _ (by repeat (first | (with_reducible exact Agree.refl _ _) | refine Agree.upd ?_ rfl | refine Agree.over ?_ rfl)) ⟨by show Value.bool _ = Value.bool _; congr 1; grind [DueP, TimeP], trivial⟩ hx8
def recvF (last seq : Int) : Int × Int := if seq = last + 1 then (seq, 1) else if 1 ≤ seq ∧ seq ≤ last then (last, 2) else (last, 3)
set_option maxRecDepth 100000 in
theorem receive_c (last seq : Int) (H : Heap) (hl : In64 (last + 1)) :
    CallsH Try.prog 27 [.agg [.int .i64 last].toArray, .int .i64 seq] H fun v H' => v = .tuple #[.agg [.int .i64 (recvF last seq).1].toArray, .int .i64 (recvF last seq).2] ∧ Ext H H' := by
  unfold In64 at hl
  refine callsH_of Try.func27 rfl Try.ntmps27 (Nat.le_of_ble_eq_true rfl) ?_
  refine wpSeq fun F1 hF1 => ?_
  refine wpRegion ?_
  refine seqN rfl rfl (nBoxA rfl rfl) (fun g2 H2 hx2 hB2 hg2 hl2 => ?_)
  refine seqN rfl rfl (nAlloc rfl Try.zeroValue62 rfl) (fun g4 H4 hx4 hB4 hg4 hl4 => ?_)
  refine seqQ rfl rfl (yAssign (v := .int _ _) rfl rfl) ?_
  refine seqNil ?_
  refine hF1 _ _ ?_; clear hF1
  refine wpSeq fun F2 hF2 => ?_
  refine wpBlock ?_
  refine wpSeq fun F3 hF3 => ?_
  refine wpRegion ?_
  refine seqQ rfl rfl (yMove (v := .int _ _) rfl rfl) ?_
  refine seqQ rfl rfl (yFieldAddr rfl Try.underlying62 rfl Try.sizeOf3 rfl rfl) ?_
  refine seqQ rfl rfl (yLoad rfl Try.underlying3 rfl rfl ((hB2.ext hx4).cell rfl)) ?_
  refine seqQ rfl rfl (yAdd rfl rfl rfl (by unfold In64; omega)) ?_
  refine seqQ rfl rfl (yEql rfl rfl rfl) ?_
  refine seqQ rfl rfl (yAssign (v := .bool _) rfl rfl) ?_
  refine seqNil ?_
  refine hF3 _ _ ?_; clear hF3
  -- if t6
  refine wpIf rfl (fun h1 => ?_) (fun h1 => ?_)
  · skip
    refine wpSeq fun F4 hF4 => ?_
    refine wpRegion ?_
    refine seqQ rfl rfl (yMove (v := .int _ _) rfl rfl) ?_
    refine seqQ rfl rfl (yBuild (pl := [(0, 1)]) (vs := [(0, .int _ _)]) rfl Try.underlying62 Try.zeroValue62 rfl (by unfold Places; kernel_rfl) rfl rfl) ?_
    -- e slot None: store T62 t4 t13
    refine seqE0 rfl rfl (stepStoreB rfl (by kernel_rfl) rfl rfl rfl hB4 rfl ?_)
    intro H5 hB5 hK5
    refine seqQ rfl rfl (yAssign (v := .int _ _) rfl rfl) ?_
    refine seqNil ?_
    refine hF4 _ _ ?_; clear hF4
    -- ret
    refine wpRet (finR2 rfl (resC Try.underlying62 rfl (by kernel_rfl) rfl hB5) (resT (v := .int _ _) rfl) ?_)
    exact ⟨by rw [show recvF last seq = (seq, 1) from if_pos h1]; rfl, (hx2.trans hx4).mine hK5 (by have := hx2.size; simp; omega)⟩
  · skip
    refine wpSeq fun F5 hF5 => ?_
    refine wpRegion ?_
    refine seqQ rfl rfl (yMove (v := .int _ _) rfl rfl) ?_
    refine seqQ rfl rfl (yGeq rfl rfl rfl) ?_
    -- guard t17
    refine seqMeet 8 [17, 18, 19, 20, 21, 22] 22 (decide (1 ≤ seq ∧ seq ≤ last)) (fun hm6 => ?_) (fun J6 => ?_)
    · skip
      first | refine seqG rfl rfl rfl rfl (fun h17 => ?_) (fun h17 => ?_) | refine seqGB rfl rfl rfl rfl (fun h17 => ?_) (fun h17 => ?_)
      · skip
        refine seqQ rfl rfl (yMove (v := .int _ _) rfl rfl) ?_
        refine seqQ rfl rfl (yFieldAddr rfl Try.underlying62 rfl Try.sizeOf3 rfl rfl) ?_
        refine seqQ rfl rfl (yLoad rfl Try.underlying3 rfl rfl ((hB2.ext hx4).cell rfl)) ?_
        refine seqQ rfl rfl (yLeq rfl rfl rfl) ?_
        refine seqQ rfl rfl (yPickT (v := .bool _) rfl rfl rfl) ?_
        exact hm6 _ (by repeat (first | (with_reducible exact Agree.refl _ _) | refine Agree.upd ?_ rfl | refine Agree.over ?_ rfl)) (by show Value.bool _ = Value.bool _; congr 1; simp [*])
      · skip
        refine seqU rfl rfl ?_
        refine seqU rfl rfl ?_
        refine seqU rfl rfl ?_
        refine seqU rfl rfl ?_
        refine seqQ rfl rfl (yPickF (v := .bool _) rfl rfl rfl) ?_
        exact hm6 _ (by repeat (first | (with_reducible exact Agree.refl _ _) | refine Agree.upd ?_ rfl | refine Agree.over ?_ rfl)) (by show Value.bool _ = Value.bool _; congr 1; simp [*])
    refine seqQ rfl rfl (yAssign (v := .bool _) rfl rfl) ?_
    refine seqNil ?_
    refine hF5 _ _ ?_; clear hF5
    -- if t14
    refine wpIf rfl (fun h2 => ?_) (fun h2 => ?_)
    · skip
      refine wpSeq fun F7 hF7 => ?_
      refine wpRegion ?_
      refine seqQ rfl rfl (yLoadB (hB2.ext hx4) rfl Try.underlying62 rfl Try.sizeOf62 rfl) ?_
      -- e slot None: store T62 t4 t23
      refine seqE0 rfl rfl (stepStoreB rfl (by kernel_rfl) rfl rfl rfl hB4 rfl ?_)
      intro H5 hB5 hK5
      refine seqQ rfl rfl (yAssign (v := .int _ _) rfl rfl) ?_
      refine seqNil ?_
      refine hF7 _ _ ?_; clear hF7
      -- ret
      refine wpRet (finR2 rfl (resC Try.underlying62 rfl (by kernel_rfl) rfl hB5) (resT (v := .int _ _) rfl) ?_)
      exact ⟨by rw [show recvF last seq = (last, 2) from by unfold recvF; rw [if_neg h1, if_pos h2]], (hx2.trans hx4).mine hK5 (by have := hx2.size; simp; omega)⟩
    · skip
      refine wpSkip ?_
      refine hF2 _ _ ?_; clear hF2
      refine wpSeq fun F8 hF8 => ?_
      refine wpRegion ?_
      refine seqQ rfl rfl (yLoadB (hB2.ext hx4) rfl Try.underlying62 rfl Try.sizeOf62 rfl) ?_
      -- e slot None: store T62 t4 t24
      refine seqE0 rfl rfl (stepStoreB rfl (by kernel_rfl) rfl rfl rfl hB4 rfl ?_)
      intro H5 hB5 hK5
      refine seqQ rfl rfl (yAssign (v := .int _ _) rfl rfl) ?_
      refine seqNil ?_
      refine hF8 _ _ ?_; clear hF8
      -- ret
      refine wpRet (finR2 rfl (resC Try.underlying62 rfl (by kernel_rfl) rfl hB5) (resT (v := .int _ _) rfl) ?_)
      exact ⟨by rw [show recvF last seq = (last, 3) from by unfold recvF; rw [if_neg h1, if_neg h2]], (hx2.trans hx4).mine hK5 (by have := hx2.size; simp; omega)⟩
end Go.Proofs.Ytcfnmklbkhibgaa
