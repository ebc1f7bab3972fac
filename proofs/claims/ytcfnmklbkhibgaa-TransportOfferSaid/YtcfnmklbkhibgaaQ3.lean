/- The document's senders: Offer, Acked, Equal; conversions. -/
import Derived.Test.YtcfnmklbkhibgaaQ2
namespace Go.Proofs.Ytcfnmklbkhibgaa
open Go.RowKit

set_option maxRecDepth 100000 in
theorem rStart_c (H : Heap) : CallsH Try.prog 23 [] H fun v H' => v = .agg (sdC sd1 none 0 none 0).toArray ∧ Ext H H' := by
  refine callsH_of Try.func23 rfl Try.ntmps23 (Nat.le_of_ble_eq_true rfl) ?_
  refine wpSeq fun F1 hF1 => ?_
  refine wpRegion ?_
  refine seqN rfl rfl (nAlloc rfl Try.zeroValue41 rfl) (fun g0 H0 hx0 hB0 hg0 hl0 => ?_)
  refine seqNil ?_
  refine hF1 _ _ ?_; clear hF1
  refine wpSeq fun F2 hF2 => ?_
  refine wpRegion ?_
  refine seqQ rfl rfl (yBuild (pl := [(0, 1), (1, 1), (2, 9), (11, 1), (12, 1)]) (vs := [(0, .int _ _)]) rfl Try.underlying41 Try.zeroValue41 rfl (by unfold Places; kernel_rfl) rfl rfl) ?_
  -- e slot None: store T41 t0 t1
  refine seqE0 rfl rfl (stepStoreB rfl (by kernel_rfl) rfl rfl rfl hB0 rfl ?_)
  intro H1 hB1 hK1
  refine seqNil ?_
  refine hF2 _ _ ?_; clear hF2
  -- ret
  refine wpRet (finR1 rfl (resC Try.underlying41 rfl (by kernel_rfl) rfl hB1) ?_)
  exact ⟨rfl, hx0.mine hK1 (by simp; omega)⟩
set_option maxRecDepth 100000 in
theorem to_c (s : Sd) (A B : Option Addr) (ca cb : Nat) (H : Heap) : CallsH Try.prog 14 [.agg (sdC s A ca B cb).toArray] H fun v H' => v = .agg (sdC s A ca B cb).toArray ∧ Ext H H' := by
  refine callsH_of Try.func14 rfl Try.ntmps14 (Nat.le_of_ble_eq_true rfl) ?_
  refine wpSeq fun F1 hF1 => ?_
  refine wpRegion ?_
  refine seqN rfl rfl (nBoxA rfl rfl) (fun g1 H1 hx1 hB1 hg1 hl1 => ?_)
  refine seqN rfl rfl (nAlloc rfl Try.zeroValue29 rfl) (fun g2 H2 hx2 hB2 hg2 hl2 => ?_)
  refine seqNil ?_
  refine hF1 _ _ ?_; clear hF1
  refine wpSeq fun F2 hF2 => ?_
  refine wpRegion ?_
  refine seqQ rfl rfl (yFieldAddr rfl Try.underlying41 rfl Try.sizeOf3 rfl rfl) ?_
  refine seqQ rfl rfl (yLoad rfl Try.underlying3 rfl rfl ((hB1.ext hx2).cell rfl)) ?_
  refine seqQ rfl rfl (yFieldAddr rfl Try.underlying41 rfl Try.sizeOf4 rfl rfl) ?_
  refine seqQ rfl rfl (yLoad rfl Try.underlying4 rfl rfl ((hB1.ext hx2).cell rfl)) ?_
  refine seqQ rfl rfl (yFieldAddr rfl Try.underlying41 rfl Try.sizeOf39 rfl rfl) ?_
  refine seqQ rfl rfl (yLoadC (cs := pkC s.pk A ca B cb) rfl Try.underlying39 rfl Try.sizeOf39 rfl ((hB1.ext hx2).sub rfl)) ?_
  refine seqQ rfl rfl (yFieldAddr rfl Try.underlying41 rfl Try.sizeOf3 rfl rfl) ?_
  refine seqQ rfl rfl (yLoad rfl Try.underlying3 rfl rfl ((hB1.ext hx2).cell rfl)) ?_
  refine seqQ rfl rfl (yFieldAddr rfl Try.underlying41 rfl Try.sizeOf3 rfl rfl) ?_
  refine seqQ rfl rfl (yLoad rfl Try.underlying3 rfl rfl ((hB1.ext hx2).cell rfl)) ?_
  refine seqQ rfl rfl (yBuild (pl := [(0, 1), (1, 1), (2, 9), (11, 1), (12, 1)]) (vs := [(0, .int _ _), (1, .bool _), (2, .agg _), (3, .int _ _), (4, .int _ _)]) rfl Try.underlying29 Try.zeroValue29 rfl (by unfold Places; kernel_rfl) rfl rfl) ?_
  -- e slot None: store T29 t2 t13
  refine seqE0 rfl rfl (stepStoreB rfl (by kernel_rfl) rfl rfl rfl hB2 rfl ?_)
  intro H3 hB3 hK3
  refine seqNil ?_
  refine hF2 _ _ ?_; clear hF2
  -- ret
  refine wpRet (finR1 rfl (resC Try.underlying29 rfl (by kernel_rfl) rfl hB3) ?_)
  exact ⟨rfl, (hx1.trans hx2).mine hK3 (by have := hx1.size; simp; omega)⟩
set_option maxRecDepth 100000 in
theorem from_c (s : Sd) (A B : Option Addr) (ca cb : Nat) (H : Heap) : CallsH Try.prog 19 [.agg (sdC s A ca B cb).toArray] H fun v H' => v = .agg (sdC s A ca B cb).toArray ∧ Ext H H' := by
  refine callsH_of Try.func19 rfl Try.ntmps19 (Nat.le_of_ble_eq_true rfl) ?_
  refine wpSeq fun F1 hF1 => ?_
  refine wpRegion ?_
  refine seqN rfl rfl (nBoxA rfl rfl) (fun g1 H1 hx1 hB1 hg1 hl1 => ?_)
  refine seqN rfl rfl (nAlloc rfl Try.zeroValue41 rfl) (fun g2 H2 hx2 hB2 hg2 hl2 => ?_)
  refine seqNil ?_
  refine hF1 _ _ ?_; clear hF1
  refine wpSeq fun F2 hF2 => ?_
  refine wpRegion ?_
  refine seqQ rfl rfl (yFieldAddr rfl Try.underlying29 rfl Try.sizeOf3 rfl rfl) ?_
  refine seqQ rfl rfl (yLoad rfl Try.underlying3 rfl rfl ((hB1.ext hx2).cell rfl)) ?_
  refine seqQ rfl rfl (yFieldAddr rfl Try.underlying29 rfl Try.sizeOf4 rfl rfl) ?_
  refine seqQ rfl rfl (yLoad rfl Try.underlying4 rfl rfl ((hB1.ext hx2).cell rfl)) ?_
  refine seqQ rfl rfl (yFieldAddr rfl Try.underlying29 rfl Try.sizeOf27 rfl rfl) ?_
  refine seqQ rfl rfl (yLoadC (cs := pkC s.pk A ca B cb) rfl Try.underlying27 rfl Try.sizeOf27 rfl ((hB1.ext hx2).sub rfl)) ?_
  refine seqQ rfl rfl (yFieldAddr rfl Try.underlying29 rfl Try.sizeOf3 rfl rfl) ?_
  refine seqQ rfl rfl (yLoad rfl Try.underlying3 rfl rfl ((hB1.ext hx2).cell rfl)) ?_
  refine seqQ rfl rfl (yFieldAddr rfl Try.underlying29 rfl Try.sizeOf3 rfl rfl) ?_
  refine seqQ rfl rfl (yLoad rfl Try.underlying3 rfl rfl ((hB1.ext hx2).cell rfl)) ?_
  refine seqQ rfl rfl (yBuild (pl := [(0, 1), (1, 1), (2, 9), (11, 1), (12, 1)]) (vs := [(0, .int _ _), (1, .bool _), (2, .agg _), (3, .int _ _), (4, .int _ _)]) rfl Try.underlying41 Try.zeroValue41 rfl (by unfold Places; kernel_rfl) rfl rfl) ?_
  -- e slot None: store T41 t2 t13
  refine seqE0 rfl rfl (stepStoreB rfl (by kernel_rfl) rfl rfl rfl hB2 rfl ?_)
  intro H3 hB3 hK3
  refine seqNil ?_
  refine hF2 _ _ ?_; clear hF2
  -- ret
  refine wpRet (finR1 rfl (resC Try.underlying41 rfl (by kernel_rfl) rfl hB3) ?_)
  exact ⟨rfl, (hx1.trans hx2).mine hK3 (by have := hx1.size; simp; omega)⟩
set_option maxRecDepth 100000 in
theorem fewBoth_c (s : Sd) (p : Pk) (A B C D : Option Addr) (ca cb cc cd : Nat) (H : Heap) (hA : Rd eVal H A s.pk.vals) (hC : Rd eVal H C p.vals) (h1 : s.pk.vals.length ≤ 9223372036854775807) (h2 : p.vals.length ≤ 9223372036854775807) :
    CallsH Try.prog 13 [.agg (sdC s A ca B cb).toArray, .agg (pkC p C cc D cd).toArray] H fun v H' => v = .bool (decide (FewP s.pk ∧ FewP p)) ∧ Ext H H' := by
  refine callsH_of Try.func13 rfl Try.ntmps13 (Nat.le_of_ble_eq_true rfl) ?_
  refine wpSeq fun F1 hF1 => ?_
  refine wpRegion ?_
  refine seqN rfl rfl (nBoxA rfl rfl) (fun g2 H2 hx2 hB2 hg2 hl2 => ?_)
  refine seqN rfl rfl (nBoxA rfl rfl) (fun g3 H3 hx3 hB3 hg3 hl3 => ?_)
  refine seqQ rfl rfl (yAssign (v := .bool _) rfl rfl) ?_
  refine seqNil ?_
  refine hF1 _ _ ?_; clear hF1
  refine wpSeq fun F2 hF2 => ?_
  refine wpRegion ?_
  refine seqQ rfl rfl (yFieldAddr rfl Try.underlying41 rfl Try.sizeOf39 rfl rfl) ?_
  refine seqQ rfl rfl (yLoadC (cs := pkC s.pk A ca B cb) rfl Try.underlying39 rfl Try.sizeOf39 rfl ((hB2.ext hx3).sub rfl)) ?_
  -- e slot 7: call F34<farandole/farandoleref46.Few> t6
  refine seqE rfl rfl (stepCall rfl Try.call34 rfl ?_)
  refine (few_c s.pk A B ca cb _ ((hA.ext hx2).ext hx3) h1).mono ?_
  rintro v H4 ⟨rfl, hx4⟩
  first | refine seqG rfl rfl rfl rfl (fun h8 => ?_) (fun h8 => ?_) | refine seqGB rfl rfl rfl rfl (fun h8 => ?_) (fun h8 => ?_)
  rotate_left
  · skip
    refine seqU rfl rfl ?_
    refine seqU rfl rfl ?_
    refine seqQ rfl rfl (yPickF (v := .bool _) rfl rfl rfl) ?_
    refine seqQ rfl rfl (yAssign (v := .bool _) rfl rfl) ?_
    refine seqNil ?_
    refine hF2 _ _ ?_; clear hF2
    refine wpRet (fin1 (v := .bool _) rfl rfl ?_)
    exact ⟨by congr 1; grind, (hx2.trans hx3).trans hx4⟩
  refine seqQ rfl rfl (yLoadB (hB3.ext hx4) rfl Try.underlying39 rfl Try.sizeOf39 rfl) ?_
  -- e slot 10: call F34<farandole/farandoleref46.Few> t9
  refine seqE rfl rfl (stepCall rfl Try.call34 rfl ?_)
  refine (few_c p C D cc cd _ (((hC.ext hx2).ext hx3).ext hx4) h2).mono ?_
  rintro v H5 ⟨rfl, hx5⟩
  refine seqQ rfl rfl (yPickT (v := .bool _) rfl rfl rfl) ?_
  refine seqQ rfl rfl (yAssign (v := .bool _) rfl rfl) ?_
  refine seqNil ?_
  refine hF2 _ _ ?_; clear hF2
  -- ret
  refine wpRet (fin1 (v := .bool _) rfl rfl ?_)
  exact ⟨by congr 1; grind, ((hx2.trans hx3).trans hx4).trans hx5⟩
set_option maxRecDepth 100000 in
theorem Sd.eq_iff (a b : Sd) : a = b ↔ a.next = b.next ∧ a.busy = b.busy ∧ a.due = b.due ∧ a.tries = b.tries ∧ a.pk = b.pk := by
  cases a; cases b; simp only [Sd.mk.injEq]; grind
instance : DecidableEq Sd := fun a b => decidable_of_iff _ (Sd.eq_iff a b).symm
set_option maxRecDepth 100000 in
theorem sdEqual_c (s t : Sd) (A B C D : Option Addr) (ca cb cc cd : Nat) (H : Heap) (hA : Rd eVal H A s.pk.vals) (hB : Rd eInt H B s.pk.clk) (hC : Rd eVal H C t.pk.vals) (hD : Rd eInt H D t.pk.clk) (h1 : s.pk.vals.length ≤ 1000000000) (h2 : s.pk.clk.length ≤ 1000000000) :
    CallsH Try.prog 18 [.agg (sdC s A ca B cb).toArray, .agg (sdC t C cc D cd).toArray] H fun v H' => v = .bool (decide (s = t)) ∧ Ext H H' := by
  refine callsH_of Try.func18 rfl Try.ntmps18 (Nat.le_of_ble_eq_true rfl) ?_
  refine wpSeq fun F1 hF1 => ?_
  refine wpRegion ?_
  refine seqN rfl rfl (nBoxA rfl rfl) (fun g2 H2 hx2 hB2 hg2 hl2 => ?_)
  refine seqN rfl rfl (nBoxA rfl rfl) (fun g3 H3 hx3 hB3 hg3 hl3 => ?_)
  refine seqQ rfl rfl (yAssign (v := .bool _) rfl rfl) ?_
  refine seqNil ?_
  refine hF1 _ _ ?_; clear hF1
  refine wpSeq fun F2 hF2 => ?_
  refine wpRegion ?_
  refine seqQ rfl rfl (yFieldAddr rfl Try.underlying41 rfl Try.sizeOf3 rfl rfl) ?_
  refine seqQ rfl rfl (yLoad rfl Try.underlying3 rfl rfl ((hB2.ext hx3).cell rfl)) ?_
  refine seqQ rfl rfl (yFieldAddr rfl Try.underlying41 rfl Try.sizeOf3 rfl rfl) ?_
  refine seqQ rfl rfl (yLoad rfl Try.underlying3 rfl rfl (hB3.cell rfl)) ?_
  refine seqQ rfl rfl (yEql rfl rfl rfl) ?_
  first | refine seqG rfl rfl rfl rfl (fun h10 => ?_) (fun h10 => ?_) | refine seqGB rfl rfl rfl rfl (fun h10 => ?_) (fun h10 => ?_)
  rotate_left
  · skip
    refine seqU rfl rfl ?_
    refine seqU rfl rfl ?_
    refine seqU rfl rfl ?_
    refine seqU rfl rfl ?_
    refine seqU rfl rfl ?_
    refine seqQ rfl rfl (yPickF (v := .bool _) rfl rfl rfl) ?_
    refine seqQ rfl rfl (yMove (v := .bool false) rfl rfl) ?_
    refine seqU rfl rfl ?_
    refine seqU rfl rfl ?_
    refine seqU rfl rfl ?_
    refine seqU rfl rfl ?_
    refine seqU rfl rfl ?_
    refine seqQ rfl rfl (yPickF (v := .bool _) rfl rfl rfl) ?_
    refine seqQ rfl rfl (yMove (v := .bool false) rfl rfl) ?_
    refine seqU rfl rfl ?_
    refine seqU rfl rfl ?_
    refine seqU rfl rfl ?_
    refine seqU rfl rfl ?_
    refine seqU rfl rfl ?_
    refine seqQ rfl rfl (yPickF (v := .bool _) rfl rfl rfl) ?_
    refine seqQ rfl rfl (yMove (v := .bool false) rfl rfl) ?_
    refine seqU rfl rfl ?_
    refine seqU rfl rfl ?_
    refine seqU rfl rfl ?_
    refine seqU rfl rfl ?_
    refine seqU rfl rfl ?_
    refine seqQ rfl rfl (yPickF (v := .bool _) rfl rfl rfl) ?_
    refine seqQ rfl rfl (yAssign (v := .bool _) rfl rfl) ?_
    refine seqNil ?_
    refine hF2 _ _ ?_; clear hF2
    refine wpRet (fin1 (v := .bool _) rfl rfl ?_)
    exact ⟨by congr 1; grind [Sd.eq_iff], hx2.trans hx3⟩
  refine seqQ rfl rfl (yFieldAddr rfl Try.underlying41 rfl Try.sizeOf4 rfl rfl) ?_
  refine seqQ rfl rfl (yLoad rfl Try.underlying4 rfl rfl ((hB2.ext hx3).cell rfl)) ?_
  refine seqQ rfl rfl (yFieldAddr rfl Try.underlying41 rfl Try.sizeOf4 rfl rfl) ?_
  refine seqQ rfl rfl (yLoad rfl Try.underlying4 rfl rfl (hB3.cell rfl)) ?_
  refine seqQ rfl rfl (yEqlB rfl Try.underlying4 rfl rfl) ?_
  refine seqQ rfl rfl (yPickT (v := .bool _) rfl rfl rfl) ?_
  first | refine seqG rfl rfl rfl rfl (fun h17 => ?_) (fun h17 => ?_) | refine seqGB rfl rfl rfl rfl (fun h17 => ?_) (fun h17 => ?_)
  rotate_left
  · skip
    refine seqU rfl rfl ?_
    refine seqU rfl rfl ?_
    refine seqU rfl rfl ?_
    refine seqU rfl rfl ?_
    refine seqU rfl rfl ?_
    refine seqQ rfl rfl (yPickF (v := .bool _) rfl rfl rfl) ?_
    refine seqQ rfl rfl (yMove (v := .bool false) rfl rfl) ?_
    refine seqU rfl rfl ?_
    refine seqU rfl rfl ?_
    refine seqU rfl rfl ?_
    refine seqU rfl rfl ?_
    refine seqU rfl rfl ?_
    refine seqQ rfl rfl (yPickF (v := .bool _) rfl rfl rfl) ?_
    refine seqQ rfl rfl (yMove (v := .bool false) rfl rfl) ?_
    refine seqU rfl rfl ?_
    refine seqU rfl rfl ?_
    refine seqU rfl rfl ?_
    refine seqU rfl rfl ?_
    refine seqU rfl rfl ?_
    refine seqQ rfl rfl (yPickF (v := .bool _) rfl rfl rfl) ?_
    refine seqQ rfl rfl (yAssign (v := .bool _) rfl rfl) ?_
    refine seqNil ?_
    refine hF2 _ _ ?_; clear hF2
    refine wpRet (fin1 (v := .bool _) rfl rfl ?_)
    exact ⟨by congr 1; grind [Sd.eq_iff], hx2.trans hx3⟩
  refine seqQ rfl rfl (yFieldAddr rfl Try.underlying41 rfl Try.sizeOf3 rfl rfl) ?_
  refine seqQ rfl rfl (yLoad rfl Try.underlying3 rfl rfl ((hB2.ext hx3).cell rfl)) ?_
  refine seqQ rfl rfl (yFieldAddr rfl Try.underlying41 rfl Try.sizeOf3 rfl rfl) ?_
  refine seqQ rfl rfl (yLoad rfl Try.underlying3 rfl rfl (hB3.cell rfl)) ?_
  refine seqQ rfl rfl (yEql rfl rfl rfl) ?_
  refine seqQ rfl rfl (yPickT (v := .bool _) rfl rfl rfl) ?_
  first | refine seqG rfl rfl rfl rfl (fun h24 => ?_) (fun h24 => ?_) | refine seqGB rfl rfl rfl rfl (fun h24 => ?_) (fun h24 => ?_)
  rotate_left
  · skip
    refine seqU rfl rfl ?_
    refine seqU rfl rfl ?_
    refine seqU rfl rfl ?_
    refine seqU rfl rfl ?_
    refine seqU rfl rfl ?_
    refine seqQ rfl rfl (yPickF (v := .bool _) rfl rfl rfl) ?_
    refine seqQ rfl rfl (yMove (v := .bool false) rfl rfl) ?_
    refine seqU rfl rfl ?_
    refine seqU rfl rfl ?_
    refine seqU rfl rfl ?_
    refine seqU rfl rfl ?_
    refine seqU rfl rfl ?_
    refine seqQ rfl rfl (yPickF (v := .bool _) rfl rfl rfl) ?_
    refine seqQ rfl rfl (yAssign (v := .bool _) rfl rfl) ?_
    refine seqNil ?_
    refine hF2 _ _ ?_; clear hF2
    refine wpRet (fin1 (v := .bool _) rfl rfl ?_)
    exact ⟨by congr 1; grind [Sd.eq_iff], hx2.trans hx3⟩
  refine seqQ rfl rfl (yFieldAddr rfl Try.underlying41 rfl Try.sizeOf3 rfl rfl) ?_
  refine seqQ rfl rfl (yLoad rfl Try.underlying3 rfl rfl ((hB2.ext hx3).cell rfl)) ?_
  refine seqQ rfl rfl (yFieldAddr rfl Try.underlying41 rfl Try.sizeOf3 rfl rfl) ?_
  refine seqQ rfl rfl (yLoad rfl Try.underlying3 rfl rfl (hB3.cell rfl)) ?_
  refine seqQ rfl rfl (yEql rfl rfl rfl) ?_
  refine seqQ rfl rfl (yPickT (v := .bool _) rfl rfl rfl) ?_
  first | refine seqG rfl rfl rfl rfl (fun h31 => ?_) (fun h31 => ?_) | refine seqGB rfl rfl rfl rfl (fun h31 => ?_) (fun h31 => ?_)
  rotate_left
  · skip
    refine seqU rfl rfl ?_
    refine seqU rfl rfl ?_
    refine seqU rfl rfl ?_
    refine seqU rfl rfl ?_
    refine seqU rfl rfl ?_
    refine seqQ rfl rfl (yPickF (v := .bool _) rfl rfl rfl) ?_
    refine seqQ rfl rfl (yAssign (v := .bool _) rfl rfl) ?_
    refine seqNil ?_
    refine hF2 _ _ ?_; clear hF2
    refine wpRet (fin1 (v := .bool _) rfl rfl ?_)
    exact ⟨by congr 1; grind [Sd.eq_iff], hx2.trans hx3⟩
  refine seqQ rfl rfl (yFieldAddr rfl Try.underlying41 rfl Try.sizeOf39 rfl rfl) ?_
  refine seqQ rfl rfl (yLoadC (cs := pkC s.pk A ca B cb) rfl Try.underlying39 rfl Try.sizeOf39 rfl ((hB2.ext hx3).sub rfl)) ?_
  refine seqQ rfl rfl (yFieldAddr rfl Try.underlying41 rfl Try.sizeOf39 rfl rfl) ?_
  refine seqQ rfl rfl (yLoadC (cs := pkC t.pk C cc D cd) rfl Try.underlying39 rfl Try.sizeOf39 rfl (hB3.sub rfl)) ?_
  -- e slot 36: call F20<farandole/farandoleref46.Equal> t33 t35
  refine seqE rfl rfl (stepCall rfl Try.call20 rfl ?_)
  refine (rEqual_c s.pk t.pk A B C D ca cb cc cd _ ((hA.ext hx2).ext hx3) ((hB.ext hx2).ext hx3) ((hC.ext hx2).ext hx3) ((hD.ext hx2).ext hx3) h1 h2).mono ?_
  rintro v H4 ⟨rfl, hx4⟩
  refine seqQ rfl rfl (yPickT (v := .bool _) rfl rfl rfl) ?_
  refine seqQ rfl rfl (yAssign (v := .bool _) rfl rfl) ?_
  refine seqNil ?_
  refine hF2 _ _ ?_; clear hF2
  -- ret
  refine wpRet (fin1 (v := .bool _) rfl rfl ?_)
  exact ⟨by congr 1; grind [Sd.eq_iff], (hx2.trans hx3).trans hx4⟩
set_option maxRecDepth 100000 in
theorem rAcked_c (s : Sd) (seq : Int) (A B : Option Addr) (ca cb : Nat) (H : Heap) (hA : Rd eVal H A s.pk.vals) (hB : Rd eInt H B s.pk.clk) (h1 : s.pk.vals.length ≤ 1000000000) (h2 : s.pk.clk.length ≤ 1000000000) :
    CallsH Try.prog 17 [.agg (sdC s A ca B cb).toArray, .int .i64 seq] H fun v H' => v = .tuple #[.agg (sdC (ackedF s seq).2 none 0 none 0).toArray, .int .i64 (ackedF s seq).1] ∧ Ext H H' := by
  refine callsH_of Try.func17 rfl Try.ntmps17 (Nat.le_of_ble_eq_true rfl) ?_
  refine wpSeq fun F1 hF1 => ?_
  refine wpRegion ?_
  refine seqN rfl rfl (nBoxA rfl rfl) (fun g2 H2 hx2 hB2 hg2 hl2 => ?_)
  refine seqN rfl rfl (nAlloc rfl Try.zeroValue41 rfl) (fun g4 H4 hx4 hB4 hg4 hl4 => ?_)
  refine seqQ rfl rfl (yAssign (v := .int _ _) rfl rfl) ?_
  refine seqNil ?_
  refine hF1 _ _ ?_; clear hF1
  refine wpSeq fun F2 hF2 => ?_
  refine wpSeq fun F3 hF3 => ?_
  refine wpRegion ?_
  refine seqQ rfl rfl (yLoadB (hB2.ext hx4) rfl Try.underlying41 rfl Try.sizeOf41 rfl) ?_
  -- e slot 7: call F22<farandole/farandoleref50.Valid> t6
  refine seqE rfl rfl (stepCall rfl Try.call22 rfl ?_)
  refine (rSdValid_c s A B ca cb _ ((hA.ext hx2).ext hx4) ((hB.ext hx2).ext hx4) h1 h2).mono ?_
  rintro v H5 ⟨rfl, hx5⟩
  have hE := (hx2.trans hx4).trans hx5
  have s2 := hx2.size
  replace hB2 := (hB2.ext hx4).ext hx5
  replace hB4 := hB4.ext hx5
  clear hx2 hx4 hx5
  refine seqQ rfl rfl (yNot rfl rfl) ?_
  refine seqNil ?_
  refine hF3 _ _ ?_; clear hF3
  -- if t8
  refine wpCond rfl (fun hv => ?_) (fun hv => ?_)
  · skip
    have hv : ¬ SdP s := by simpa using hv
    refine wpSeq fun F4 hF4 => ?_
    refine wpRegion ?_
    refine seqQ rfl rfl (yBuild (pl := [(0, 1), (1, 1), (2, 9), (11, 1), (12, 1)]) (vs := []) rfl Try.underlying41 Try.zeroValue41 rfl (by unfold Places; kernel_rfl) rfl rfl) ?_
    -- e slot None: store T41 t4 t9
    refine seqE0 rfl rfl (stepStoreB rfl (by kernel_rfl) rfl rfl rfl hB4 rfl ?_)
    intro H6 hB6 hK6
    refine seqQ rfl rfl (yAssign (v := .int _ _) rfl rfl) ?_
    refine seqNil ?_
    refine hF4 _ _ ?_; clear hF4
    -- ret
    refine wpRet (finR2 rfl (resC Try.underlying41 rfl (by kernel_rfl) rfl hB6) (resT (v := .int _ _) rfl) ?_)
    exact ⟨by rw [show ackedF s seq = (1, sd0) from if_pos hv]; rfl, hE.mine hK6 (by simp; omega)⟩
  · skip
    have hv : ¬ ¬ SdP s := by simpa using hv
    refine wpSkip ?_
    refine hF2 _ _ ?_; clear hF2
    refine wpSeq fun F5 hF5 => ?_
    refine wpSeq fun F6 hF6 => ?_
    refine wpRegion ?_
    refine seqQ rfl rfl (yFieldAddr rfl Try.underlying41 rfl Try.sizeOf4 rfl rfl) ?_
    refine seqQ rfl rfl (yLoad rfl Try.underlying4 rfl rfl (hB2.cell rfl)) ?_
    refine seqQ rfl rfl (yNot rfl rfl) ?_
    -- guard t13
    refine seqMeet 10 [13, 14, 15, 16, 17, 18, 19] 19 (decide (s.busy = false ∨ s.pk.seq ≠ seq)) (fun hm7 => ?_) (fun J7 => ?_)
    · skip
      first | refine seqG rfl rfl rfl rfl (fun h13 => ?_) (fun h13 => ?_) | refine seqGB rfl rfl rfl rfl (fun h13 => ?_) (fun h13 => ?_)
      · skip
        refine seqU rfl rfl ?_
        refine seqU rfl rfl ?_
        refine seqU rfl rfl ?_
        refine seqU rfl rfl ?_
        refine seqU rfl rfl ?_
        refine seqQ rfl rfl (yPickT (v := .bool _) rfl rfl rfl) ?_
        exact hm7 _ (by repeat (first | (with_reducible exact Agree.refl _ _) | refine Agree.upd ?_ rfl | refine Agree.over ?_ rfl)) (by show Value.bool _ = Value.bool _; congr 1; grind)
      · skip
        refine seqQ rfl rfl (yFieldAddr rfl Try.underlying41 rfl Try.sizeOf39 rfl rfl) ?_
        refine seqQ rfl rfl (yFieldAddr rfl Try.underlying39 rfl Try.sizeOf3 rfl rfl) ?_
        refine seqQ rfl rfl (yLoad rfl Try.underlying3 rfl rfl (hB2.cell2 rfl)) ?_
        refine seqQ rfl rfl (yMove (v := .int _ _) rfl rfl) ?_
        refine seqQ rfl rfl (yNeq rfl rfl rfl) ?_
        refine seqQ rfl rfl (yPickF (v := .bool _) rfl rfl rfl) ?_
        exact hm7 _ (by repeat (first | (with_reducible exact Agree.refl _ _) | refine Agree.upd ?_ rfl | refine Agree.over ?_ rfl)) (by show Value.bool _ = Value.bool _; congr 1; grind)
    refine seqNil ?_
    refine hF6 _ _ ?_; clear hF6
    -- if t19
    refine wpIf rfl (fun hb => ?_) (fun hb => ?_)
    · skip
      refine wpSeq fun F8 hF8 => ?_
      refine wpRegion ?_
      refine seqQ rfl rfl (yBuild (pl := [(0, 1), (1, 1), (2, 9), (11, 1), (12, 1)]) (vs := []) rfl Try.underlying41 Try.zeroValue41 rfl (by unfold Places; kernel_rfl) rfl rfl) ?_
      -- e slot None: store T41 t4 t20
      refine seqE0 rfl rfl (stepStoreB rfl (by kernel_rfl) rfl rfl rfl hB4 rfl ?_)
      intro H6 hB6 hK6
      refine seqQ rfl rfl (yAssign (v := .int _ _) rfl rfl) ?_
      refine seqNil ?_
      refine hF8 _ _ ?_; clear hF8
      -- ret
      refine wpRet (finR2 rfl (resC Try.underlying41 rfl (by kernel_rfl) rfl hB6) (resT (v := .int _ _) rfl) ?_)
      exact ⟨by rw [show ackedF s seq = (8, sd0) from by unfold ackedF; rw [if_neg hv, if_pos hb]]; rfl, hE.mine hK6 (by simp; omega)⟩
    · skip
      refine wpSkip ?_
      refine hF5 _ _ ?_; clear hF5
      refine wpSeq fun F9 hF9 => ?_
      refine wpRegion ?_
      refine seqQ rfl rfl (yFieldAddr rfl Try.underlying41 rfl Try.sizeOf3 rfl rfl) ?_
      refine seqQ rfl rfl (yLoad rfl Try.underlying3 rfl rfl (hB2.cell rfl)) ?_
      refine seqQ rfl rfl (yBuild (pl := [(0, 1), (1, 1), (2, 9), (11, 1), (12, 1)]) (vs := [(0, .int _ _)]) rfl Try.underlying41 Try.zeroValue41 rfl (by unfold Places; kernel_rfl) rfl rfl) ?_
      -- e slot None: store T41 t4 t23
      refine seqE0 rfl rfl (stepStoreB rfl (by kernel_rfl) rfl rfl rfl hB4 rfl ?_)
      intro H6 hB6 hK6
      refine seqQ rfl rfl (yAssign (v := .int _ _) rfl rfl) ?_
      refine seqNil ?_
      refine hF9 _ _ ?_; clear hF9
      -- ret
      refine wpRet (finR2 rfl (resC Try.underlying41 rfl (by kernel_rfl) rfl hB6) (resT (v := .int _ _) rfl) ?_)
      exact ⟨by rw [show ackedF s seq = (0, { sd0 with next := s.next }) from by unfold ackedF; rw [if_neg hv, if_neg hb]]; rfl, hE.mine hK6 (by simp; omega)⟩
end Go.Proofs.Ytcfnmklbkhibgaa
