/- Packets: what is valid, by kind. -/
import Derived.Test.YtcfnmklbkhibgaaK3
namespace Go.Proofs.Ytcfnmklbkhibgaa
open Go.RowKit

def NumP (p : Pk) : Prop := (0 ≤ p.src ∧ p.src < 6) ∧ (0 ≤ p.dst ∧ p.dst < 6) ∧ p.src ≠ p.dst ∧ 1 ≤ p.seq ∧ p.seq ≤ 1099511627776
instance (p : Pk) : Decidable (NumP p) := by unfold NumP; infer_instance
def BareP (p : Pk) : Prop := p.epoch = 0 ∧ (p.vals.length : Int) = 0 ∧ (p.clk.length : Int) = 0
instance (p : Pk) : Decidable (BareP p) := by unfold BareP; infer_instance
def AckP (p : Pk) : Prop := NumP p ∧ BareP p ∧ p.label = 0
instance (p : Pk) : Decidable (AckP p) := by unfold AckP; infer_instance
def OrderP (p : Pk) : Prop := (0 ≤ p.src ∧ p.src < 6) ∧ (p.label = 1 ∨ p.label = 2) ∧ BareP p ∧ p.dst = 0 ∧ p.seq = 0
instance (p : Pk) : Decidable (OrderP p) := by unfold OrderP; infer_instance
def DataP (p : Pk) : Prop := NumP p ∧ (p.epoch = 0 ∨ p.epoch = 1) ∧ 0 ≤ p.label ∧ p.label < 40 ∧ (p.vals.length : Int) ≤ 4 ∧ (p.clk.length : Int) ≤ 6 ∧ (∀ v ∈ p.vals, properB v = true) ∧ (∀ n ∈ p.clk, seqB n = true)
instance (p : Pk) : Decidable (DataP p) := by unfold DataP; infer_instance
def ValidP (p : Pk) : Prop := 1 ≤ p.kind ∧ p.kind ≤ 4 ∧ 1 ≤ p.session ∧ p.session ≤ 32 ∧ (if p.kind = 1 then DataP p else if p.kind = 2 then AckP p else OrderP p)
instance (p : Pk) : Decidable (ValidP p) := by unfold ValidP; infer_instance

set_option maxRecDepth 100000 in
theorem numbered_c (p : Pk) (A B : Option Addr) (ca cb : Nat) (H : Heap) :
    CallsH Try.prog 59 [.agg (pkC p A ca B cb).toArray] H fun v H' => v = .bool (decide (NumP p)) ∧ Ext H H' := by
  refine callsH_of Try.func59 rfl Try.ntmps59 (Nat.le_of_ble_eq_true rfl) ?_
  refine wpSeq fun F1 hF1 => ?_
  refine wpRegion ?_
  refine seqN rfl rfl (nBoxA rfl rfl) (fun g1 H1 hx1 hB1 hg1 hl1 => ?_)
  refine seqQ rfl rfl (yAssign (v := .bool _) rfl rfl) ?_
  refine seqNil ?_
  refine hF1 _ _ ?_; clear hF1
  refine wpSeq fun F2 hF2 => ?_
  refine wpRegion ?_
  refine seqQ rfl rfl (yFieldAddr rfl Try.underlying27 rfl Try.sizeOf3 rfl rfl) ?_
  refine seqQ rfl rfl (yLoad rfl Try.underlying3 rfl rfl (hB1.cell rfl)) ?_
  -- e slot 5: call F66<farandole/packet.role> t4
  refine seqE rfl rfl (stepCall rfl Try.call66 rfl ?_)
  refine (role_c p.src _).mono ?_
  rintro v H' ⟨rfl, rfl⟩
  first | refine seqG rfl rfl rfl rfl (fun h6 => ?_) (fun h6 => ?_) | refine seqGB rfl rfl rfl rfl (fun h6 => ?_) (fun h6 => ?_)
  rotate_left
  · skip
    refine seqU rfl rfl ?_
    refine seqU rfl rfl ?_
    refine seqU rfl rfl ?_
    refine seqQ rfl rfl (yPickF (v := .bool _) rfl rfl rfl) ?_
    refine seqQ rfl rfl (yMove (v := .bool false) rfl rfl) ?_
    refine seqU rfl rfl ?_
    refine seqU rfl rfl ?_
    refine seqU rfl rfl ?_
    refine seqU rfl rfl ?_
    refine seqU rfl rfl ?_
    refine seqQ rfl rfl (yPickF (v := .bool _) rfl rfl rfl) ?_
    refine seqQ rfl rfl (yMove (v := .bool false) rfl rfl) ?_
    refine seqU rfl rfl ?_
    refine seqU rfl rfl ?_
    refine seqU rfl rfl ?_
    refine seqQ rfl rfl (yPickF (v := .bool _) rfl rfl rfl) ?_
    refine seqQ rfl rfl (yMove (v := .bool false) rfl rfl) ?_
    refine seqU rfl rfl ?_
    refine seqU rfl rfl ?_
    refine seqU rfl rfl ?_
    refine seqQ rfl rfl (yPickF (v := .bool _) rfl rfl rfl) ?_
    refine seqQ rfl rfl (yAssign (v := .bool _) rfl rfl) ?_
    refine seqNil ?_
    refine hF2 _ _ ?_; clear hF2
    refine wpRet (fin1 (v := .bool _) rfl rfl ?_)
    exact ⟨by grind [NumP, BareP, AckP, OrderP, DataP], hx1⟩
  refine seqQ rfl rfl (yFieldAddr rfl Try.underlying27 rfl Try.sizeOf3 rfl rfl) ?_
  refine seqQ rfl rfl (yLoad rfl Try.underlying3 rfl rfl (hB1.cell rfl)) ?_
  -- e slot 9: call F66<farandole/packet.role> t8
  refine seqE rfl rfl (stepCall rfl Try.call66 rfl ?_)
  refine (role_c p.dst _).mono ?_
  rintro v H' ⟨rfl, rfl⟩
  refine seqQ rfl rfl (yPickT (v := .bool _) rfl rfl rfl) ?_
  first | refine seqG rfl rfl rfl rfl (fun h11 => ?_) (fun h11 => ?_) | refine seqGB rfl rfl rfl rfl (fun h11 => ?_) (fun h11 => ?_)
  rotate_left
  · skip
    refine seqU rfl rfl ?_
    refine seqU rfl rfl ?_
    refine seqU rfl rfl ?_
    refine seqU rfl rfl ?_
    refine seqU rfl rfl ?_
    refine seqQ rfl rfl (yPickF (v := .bool _) rfl rfl rfl) ?_
    refine seqQ rfl rfl (yMove (v := .bool false) rfl rfl) ?_
    refine seqU rfl rfl ?_
    refine seqU rfl rfl ?_
    refine seqU rfl rfl ?_
    refine seqQ rfl rfl (yPickF (v := .bool _) rfl rfl rfl) ?_
    refine seqQ rfl rfl (yMove (v := .bool false) rfl rfl) ?_
    refine seqU rfl rfl ?_
    refine seqU rfl rfl ?_
    refine seqU rfl rfl ?_
    refine seqQ rfl rfl (yPickF (v := .bool _) rfl rfl rfl) ?_
    refine seqQ rfl rfl (yAssign (v := .bool _) rfl rfl) ?_
    refine seqNil ?_
    refine hF2 _ _ ?_; clear hF2
    refine wpRet (fin1 (v := .bool _) rfl rfl ?_)
    exact ⟨by grind [NumP, BareP, AckP, OrderP, DataP], hx1⟩
  refine seqQ rfl rfl (yFieldAddr rfl Try.underlying27 rfl Try.sizeOf3 rfl rfl) ?_
  refine seqQ rfl rfl (yLoad rfl Try.underlying3 rfl rfl (hB1.cell rfl)) ?_
  refine seqQ rfl rfl (yFieldAddr rfl Try.underlying27 rfl Try.sizeOf3 rfl rfl) ?_
  refine seqQ rfl rfl (yLoad rfl Try.underlying3 rfl rfl (hB1.cell rfl)) ?_
  refine seqQ rfl rfl (yNeq rfl rfl rfl) ?_
  refine seqQ rfl rfl (yPickT (v := .bool _) rfl rfl rfl) ?_
  first | refine seqG rfl rfl rfl rfl (fun h18 => ?_) (fun h18 => ?_) | refine seqGB rfl rfl rfl rfl (fun h18 => ?_) (fun h18 => ?_)
  rotate_left
  · skip
    refine seqU rfl rfl ?_
    refine seqU rfl rfl ?_
    refine seqU rfl rfl ?_
    refine seqQ rfl rfl (yPickF (v := .bool _) rfl rfl rfl) ?_
    refine seqQ rfl rfl (yMove (v := .bool false) rfl rfl) ?_
    refine seqU rfl rfl ?_
    refine seqU rfl rfl ?_
    refine seqU rfl rfl ?_
    refine seqQ rfl rfl (yPickF (v := .bool _) rfl rfl rfl) ?_
    refine seqQ rfl rfl (yAssign (v := .bool _) rfl rfl) ?_
    refine seqNil ?_
    refine hF2 _ _ ?_; clear hF2
    refine wpRet (fin1 (v := .bool _) rfl rfl ?_)
    exact ⟨by grind [NumP, BareP, AckP, OrderP, DataP], hx1⟩
  refine seqQ rfl rfl (yFieldAddr rfl Try.underlying27 rfl Try.sizeOf3 rfl rfl) ?_
  refine seqQ rfl rfl (yLoad rfl Try.underlying3 rfl rfl (hB1.cell rfl)) ?_
  refine seqQ rfl rfl (yGeq rfl rfl rfl) ?_
  refine seqQ rfl rfl (yPickT (v := .bool _) rfl rfl rfl) ?_
  first | refine seqG rfl rfl rfl rfl (fun h23 => ?_) (fun h23 => ?_) | refine seqGB rfl rfl rfl rfl (fun h23 => ?_) (fun h23 => ?_)
  rotate_left
  · skip
    refine seqU rfl rfl ?_
    refine seqU rfl rfl ?_
    refine seqU rfl rfl ?_
    refine seqQ rfl rfl (yPickF (v := .bool _) rfl rfl rfl) ?_
    refine seqQ rfl rfl (yAssign (v := .bool _) rfl rfl) ?_
    refine seqNil ?_
    refine hF2 _ _ ?_; clear hF2
    refine wpRet (fin1 (v := .bool _) rfl rfl ?_)
    exact ⟨by grind [NumP, BareP, AckP, OrderP, DataP], hx1⟩
  refine seqQ rfl rfl (yFieldAddr rfl Try.underlying27 rfl Try.sizeOf3 rfl rfl) ?_
  refine seqQ rfl rfl (yLoad rfl Try.underlying3 rfl rfl (hB1.cell rfl)) ?_
  refine seqQ rfl rfl (yLeq rfl rfl rfl) ?_
  refine seqQ rfl rfl (yPickT (v := .bool _) rfl rfl rfl) ?_
  refine seqQ rfl rfl (yAssign (v := .bool _) rfl rfl) ?_
  refine seqNil ?_
  refine hF2 _ _ ?_; clear hF2
  -- ret
  refine wpRet (fin1 (v := .bool _) rfl rfl ?_)
  exact ⟨by grind [NumP, BareP, AckP, OrderP, DataP], hx1⟩
set_option maxRecDepth 100000 in
theorem bare_c (p : Pk) (A B : Option Addr) (ca cb : Nat) (H : Heap) :
    CallsH Try.prog 65 [.agg (pkC p A ca B cb).toArray] H fun v H' => v = .bool (decide (BareP p)) ∧ Ext H H' := by
  refine callsH_of Try.func65 rfl Try.ntmps65 (Nat.le_of_ble_eq_true rfl) ?_
  refine wpSeq fun F1 hF1 => ?_
  refine wpRegion ?_
  refine seqN rfl rfl (nBoxA rfl rfl) (fun g1 H1 hx1 hB1 hg1 hl1 => ?_)
  refine seqQ rfl rfl (yAssign (v := .bool _) rfl rfl) ?_
  refine seqNil ?_
  refine hF1 _ _ ?_; clear hF1
  refine wpSeq fun F2 hF2 => ?_
  refine wpRegion ?_
  refine seqQ rfl rfl (yFieldAddr rfl Try.underlying27 rfl Try.sizeOf3 rfl rfl) ?_
  refine seqQ rfl rfl (yLoad rfl Try.underlying3 rfl rfl (hB1.cell rfl)) ?_
  refine seqQ rfl rfl (yEql rfl rfl rfl) ?_
  first | refine seqG rfl rfl rfl rfl (fun h6 => ?_) (fun h6 => ?_) | refine seqGB rfl rfl rfl rfl (fun h6 => ?_) (fun h6 => ?_)
  rotate_left
  · skip
    refine seqU rfl rfl ?_
    refine seqU rfl rfl ?_
    refine seqU rfl rfl ?_
    refine seqU rfl rfl ?_
    refine seqQ rfl rfl (yPickF (v := .bool _) rfl rfl rfl) ?_
    refine seqQ rfl rfl (yMove (v := .bool false) rfl rfl) ?_
    refine seqU rfl rfl ?_
    refine seqU rfl rfl ?_
    refine seqU rfl rfl ?_
    refine seqU rfl rfl ?_
    refine seqQ rfl rfl (yPickF (v := .bool _) rfl rfl rfl) ?_
    refine seqQ rfl rfl (yAssign (v := .bool _) rfl rfl) ?_
    refine seqNil ?_
    refine hF2 _ _ ?_; clear hF2
    refine wpRet (fin1 (v := .bool _) rfl rfl ?_)
    exact ⟨by grind [NumP, BareP, AckP, OrderP, DataP], hx1⟩
  refine seqQ rfl rfl (yFieldAddr rfl Try.underlying27 rfl Try.sizeOf24 rfl rfl) ?_
  refine seqQ rfl rfl (yLoad rfl Try.underlying24 rfl rfl (hB1.cell rfl)) ?_
  refine seqQ rfl rfl (yLen rfl Try.underlying24 rfl) ?_
  refine seqQ rfl rfl (yEql rfl rfl rfl) ?_
  refine seqQ rfl rfl (yPickT (v := .bool _) rfl rfl rfl) ?_
  first | refine seqG rfl rfl rfl rfl (fun h12 => ?_) (fun h12 => ?_) | refine seqGB rfl rfl rfl rfl (fun h12 => ?_) (fun h12 => ?_)
  rotate_left
  · skip
    refine seqU rfl rfl ?_
    refine seqU rfl rfl ?_
    refine seqU rfl rfl ?_
    refine seqU rfl rfl ?_
    refine seqQ rfl rfl (yPickF (v := .bool _) rfl rfl rfl) ?_
    refine seqQ rfl rfl (yAssign (v := .bool _) rfl rfl) ?_
    refine seqNil ?_
    refine hF2 _ _ ?_; clear hF2
    refine wpRet (fin1 (v := .bool _) rfl rfl ?_)
    exact ⟨by grind [NumP, BareP, AckP, OrderP, DataP], hx1⟩
  refine seqQ rfl rfl (yFieldAddr rfl Try.underlying27 rfl Try.sizeOf25 rfl rfl) ?_
  refine seqQ rfl rfl (yLoad rfl Try.underlying25 rfl rfl (hB1.cell rfl)) ?_
  refine seqQ rfl rfl (yLen rfl Try.underlying25 rfl) ?_
  refine seqQ rfl rfl (yEql rfl rfl rfl) ?_
  refine seqQ rfl rfl (yPickT (v := .bool _) rfl rfl rfl) ?_
  refine seqQ rfl rfl (yAssign (v := .bool _) rfl rfl) ?_
  refine seqNil ?_
  refine hF2 _ _ ?_; clear hF2
  -- ret
  refine wpRet (fin1 (v := .bool _) rfl rfl ?_)
  exact ⟨by grind [NumP, BareP, AckP, OrderP, DataP], hx1⟩
set_option maxRecDepth 100000 in
theorem ack_c (p : Pk) (A B : Option Addr) (ca cb : Nat) (H : Heap) :
    CallsH Try.prog 48 [.agg (pkC p A ca B cb).toArray] H fun v H' => v = .bool (decide (AckP p)) ∧ Ext H H' := by
  refine callsH_of Try.func48 rfl Try.ntmps48 (Nat.le_of_ble_eq_true rfl) ?_
  refine wpSeq fun F1 hF1 => ?_
  refine wpRegion ?_
  refine seqN rfl rfl (nBoxA rfl rfl) (fun g1 H1 hx1 hB1 hg1 hl1 => ?_)
  refine seqQ rfl rfl (yAssign (v := .bool _) rfl rfl) ?_
  refine seqNil ?_
  refine hF1 _ _ ?_; clear hF1
  refine wpSeq fun F2 hF2 => ?_
  refine wpRegion ?_
  refine seqQ rfl rfl (yLoadB hB1 rfl Try.underlying27 rfl Try.sizeOf27 rfl) ?_
  -- e slot 4: call F59<(farandole/packet.Packet).numbered> t3
  refine seqE rfl rfl (stepCall rfl Try.call59 rfl ?_)
  refine (numbered_c p A B ca cb _).mono ?_
  rintro v H2 ⟨rfl, hx2⟩
  first | refine seqG rfl rfl rfl rfl (fun h5 => ?_) (fun h5 => ?_) | refine seqGB rfl rfl rfl rfl (fun h5 => ?_) (fun h5 => ?_)
  rotate_left
  · skip
    refine seqU rfl rfl ?_
    refine seqU rfl rfl ?_
    refine seqQ rfl rfl (yPickF (v := .bool _) rfl rfl rfl) ?_
    refine seqQ rfl rfl (yMove (v := .bool false) rfl rfl) ?_
    refine seqU rfl rfl ?_
    refine seqU rfl rfl ?_
    refine seqU rfl rfl ?_
    refine seqQ rfl rfl (yPickF (v := .bool _) rfl rfl rfl) ?_
    refine seqQ rfl rfl (yAssign (v := .bool _) rfl rfl) ?_
    refine seqNil ?_
    refine hF2 _ _ ?_; clear hF2
    refine wpRet (fin1 (v := .bool _) rfl rfl ?_)
    exact ⟨by grind [NumP, BareP, AckP, OrderP, DataP], hx1.trans hx2⟩
  refine seqQ rfl rfl (yLoadB (hB1.ext hx2) rfl Try.underlying27 rfl Try.sizeOf27 rfl) ?_
  -- e slot 7: call F65<(farandole/packet.Packet).bare> t6
  refine seqE rfl rfl (stepCall rfl Try.call65 rfl ?_)
  refine (bare_c p A B ca cb _).mono ?_
  rintro v H3 ⟨rfl, hx3⟩
  refine seqQ rfl rfl (yPickT (v := .bool _) rfl rfl rfl) ?_
  first | refine seqG rfl rfl rfl rfl (fun h9 => ?_) (fun h9 => ?_) | refine seqGB rfl rfl rfl rfl (fun h9 => ?_) (fun h9 => ?_)
  rotate_left
  · skip
    refine seqU rfl rfl ?_
    refine seqU rfl rfl ?_
    refine seqU rfl rfl ?_
    refine seqQ rfl rfl (yPickF (v := .bool _) rfl rfl rfl) ?_
    refine seqQ rfl rfl (yAssign (v := .bool _) rfl rfl) ?_
    refine seqNil ?_
    refine hF2 _ _ ?_; clear hF2
    refine wpRet (fin1 (v := .bool _) rfl rfl ?_)
    exact ⟨by grind [NumP, BareP, AckP, OrderP, DataP], (hx1.trans hx2).trans hx3⟩
  refine seqQ rfl rfl (yFieldAddr rfl Try.underlying27 rfl Try.sizeOf3 rfl rfl) ?_
  refine seqQ rfl rfl (yLoad rfl Try.underlying3 rfl rfl (((hB1.ext hx2).ext hx3).cell rfl)) ?_
  refine seqQ rfl rfl (yEql rfl rfl rfl) ?_
  refine seqQ rfl rfl (yPickT (v := .bool _) rfl rfl rfl) ?_
  refine seqQ rfl rfl (yAssign (v := .bool _) rfl rfl) ?_
  refine seqNil ?_
  refine hF2 _ _ ?_; clear hF2
  -- ret
  refine wpRet (fin1 (v := .bool _) rfl rfl ?_)
  exact ⟨by grind [NumP, BareP, AckP, OrderP, DataP], (hx1.trans hx2).trans hx3⟩
set_option maxRecDepth 100000 in
theorem order_c (p : Pk) (A B : Option Addr) (ca cb : Nat) (H : Heap) :
    CallsH Try.prog 49 [.agg (pkC p A ca B cb).toArray] H fun v H' => v = .bool (decide (OrderP p)) ∧ Ext H H' := by
  refine callsH_of Try.func49 rfl Try.ntmps49 (Nat.le_of_ble_eq_true rfl) ?_
  refine wpSeq fun F1 hF1 => ?_
  refine wpRegion ?_
  refine seqN rfl rfl (nBoxA rfl rfl) (fun g1 H1 hx1 hB1 hg1 hl1 => ?_)
  refine seqQ rfl rfl (yAssign (v := .bool _) rfl rfl) ?_
  refine seqNil ?_
  refine hF1 _ _ ?_; clear hF1
  refine wpSeq fun F2 hF2 => ?_
  refine wpRegion ?_
  refine seqQ rfl rfl (yFieldAddr rfl Try.underlying27 rfl Try.sizeOf3 rfl rfl) ?_
  refine seqQ rfl rfl (yLoad rfl Try.underlying3 rfl rfl (hB1.cell rfl)) ?_
  -- e slot 5: call F66<farandole/packet.role> t4
  refine seqE rfl rfl (stepCall rfl Try.call66 rfl ?_)
  refine (role_c p.src _).mono ?_
  rintro v H' ⟨rfl, rfl⟩
  first | refine seqG rfl rfl rfl rfl (fun h6 => ?_) (fun h6 => ?_) | refine seqGB rfl rfl rfl rfl (fun h6 => ?_) (fun h6 => ?_)
  rotate_left
  · skip
    refine seqU rfl rfl ?_
    refine seqU rfl rfl ?_
    refine seqU rfl rfl ?_
    refine seqU rfl rfl ?_
    refine seqU rfl rfl ?_
    refine seqU rfl rfl ?_
    refine seqU rfl rfl ?_
    refine seqU rfl rfl ?_
    refine seqQ rfl rfl (yPickF (v := .bool _) rfl rfl rfl) ?_
    refine seqQ rfl rfl (yMove (v := .bool false) rfl rfl) ?_
    refine seqU rfl rfl ?_
    refine seqU rfl rfl ?_
    refine seqQ rfl rfl (yPickF (v := .bool _) rfl rfl rfl) ?_
    refine seqQ rfl rfl (yMove (v := .bool false) rfl rfl) ?_
    refine seqU rfl rfl ?_
    refine seqU rfl rfl ?_
    refine seqU rfl rfl ?_
    refine seqQ rfl rfl (yPickF (v := .bool _) rfl rfl rfl) ?_
    refine seqQ rfl rfl (yMove (v := .bool false) rfl rfl) ?_
    refine seqU rfl rfl ?_
    refine seqU rfl rfl ?_
    refine seqU rfl rfl ?_
    refine seqQ rfl rfl (yPickF (v := .bool _) rfl rfl rfl) ?_
    refine seqQ rfl rfl (yAssign (v := .bool _) rfl rfl) ?_
    refine seqNil ?_
    refine hF2 _ _ ?_; clear hF2
    refine wpRet (fin1 (v := .bool _) rfl rfl ?_)
    exact ⟨by grind [NumP, BareP, AckP, OrderP, DataP], hx1⟩
  refine seqQ rfl rfl (yFieldAddr rfl Try.underlying27 rfl Try.sizeOf3 rfl rfl) ?_
  refine seqQ rfl rfl (yLoad rfl Try.underlying3 rfl rfl (hB1.cell rfl)) ?_
  refine seqQ rfl rfl (yEql rfl rfl rfl) ?_
  -- guard t10
  refine seqMeet 12 [10, 11, 12, 13, 14] 14 (decide (p.label = 1 ∨ p.label = 2)) (fun hm3 => ?_) (fun J3 => ?_)
  · skip
    first | refine seqG rfl rfl rfl rfl (fun h10 => ?_) (fun h10 => ?_) | refine seqGB rfl rfl rfl rfl (fun h10 => ?_) (fun h10 => ?_)
    · skip
      refine seqU rfl rfl ?_
      refine seqU rfl rfl ?_
      refine seqU rfl rfl ?_
      refine seqQ rfl rfl (yPickT (v := .bool _) rfl rfl rfl) ?_
      exact hm3 _ (by repeat (first | (with_reducible exact Agree.refl _ _) | refine Agree.upd ?_ rfl | refine Agree.over ?_ rfl)) (by show Value.bool _ = Value.bool _; congr 1; simp [*])
    · skip
      refine seqQ rfl rfl (yFieldAddr rfl Try.underlying27 rfl Try.sizeOf3 rfl rfl) ?_
      refine seqQ rfl rfl (yLoad rfl Try.underlying3 rfl rfl (hB1.cell rfl)) ?_
      refine seqQ rfl rfl (yEql rfl rfl rfl) ?_
      refine seqQ rfl rfl (yPickF (v := .bool _) rfl rfl rfl) ?_
      exact hm3 _ (by repeat (first | (with_reducible exact Agree.refl _ _) | refine Agree.upd ?_ rfl | refine Agree.over ?_ rfl)) (by show Value.bool _ = Value.bool _; congr 1; simp [*])
  refine seqQ rfl rfl (yPickT (v := .bool _) rfl rfl rfl) ?_
  first | refine seqG rfl rfl rfl rfl (fun h16 => ?_) (fun h16 => ?_) | refine seqGB rfl rfl rfl rfl (fun h16 => ?_) (fun h16 => ?_)
  rotate_left
  · skip
    refine seqU rfl rfl ?_
    refine seqU rfl rfl ?_
    refine seqQ rfl rfl (yPickF (v := .bool _) rfl rfl rfl) ?_
    refine seqQ rfl rfl (yMove (v := .bool false) rfl rfl) ?_
    refine seqU rfl rfl ?_
    refine seqU rfl rfl ?_
    refine seqU rfl rfl ?_
    refine seqQ rfl rfl (yPickF (v := .bool _) rfl rfl rfl) ?_
    refine seqQ rfl rfl (yMove (v := .bool false) rfl rfl) ?_
    refine seqU rfl rfl ?_
    refine seqU rfl rfl ?_
    refine seqU rfl rfl ?_
    refine seqQ rfl rfl (yPickF (v := .bool _) rfl rfl rfl) ?_
    refine seqQ rfl rfl (yAssign (v := .bool _) rfl rfl) ?_
    refine seqNil ?_
    refine hF2 _ _ ?_; clear hF2
    refine wpRet (fin1 (v := .bool _) rfl rfl ?_)
    exact ⟨by grind [NumP, BareP, AckP, OrderP, DataP], hx1⟩
  refine seqQ rfl rfl (yLoadB hB1 rfl Try.underlying27 rfl Try.sizeOf27 rfl) ?_
  -- e slot 18: call F65<(farandole/packet.Packet).bare> t17
  refine seqE rfl rfl (stepCall rfl Try.call65 rfl ?_)
  refine (bare_c p A B ca cb _).mono ?_
  rintro v H3 ⟨rfl, hx3⟩
  refine seqQ rfl rfl (yPickT (v := .bool _) rfl rfl rfl) ?_
  first | refine seqG rfl rfl rfl rfl (fun h20 => ?_) (fun h20 => ?_) | refine seqGB rfl rfl rfl rfl (fun h20 => ?_) (fun h20 => ?_)
  rotate_left
  · skip
    refine seqU rfl rfl ?_
    refine seqU rfl rfl ?_
    refine seqU rfl rfl ?_
    refine seqQ rfl rfl (yPickF (v := .bool _) rfl rfl rfl) ?_
    refine seqQ rfl rfl (yMove (v := .bool false) rfl rfl) ?_
    refine seqU rfl rfl ?_
    refine seqU rfl rfl ?_
    refine seqU rfl rfl ?_
    refine seqQ rfl rfl (yPickF (v := .bool _) rfl rfl rfl) ?_
    refine seqQ rfl rfl (yAssign (v := .bool _) rfl rfl) ?_
    refine seqNil ?_
    refine hF2 _ _ ?_; clear hF2
    refine wpRet (fin1 (v := .bool _) rfl rfl ?_)
    exact ⟨by grind [NumP, BareP, AckP, OrderP, DataP], hx1.trans hx3⟩
  refine seqQ rfl rfl (yFieldAddr rfl Try.underlying27 rfl Try.sizeOf3 rfl rfl) ?_
  refine seqQ rfl rfl (yLoad rfl Try.underlying3 rfl rfl ((hB1.ext hx3).cell rfl)) ?_
  refine seqQ rfl rfl (yEql rfl rfl rfl) ?_
  refine seqQ rfl rfl (yPickT (v := .bool _) rfl rfl rfl) ?_
  first | refine seqG rfl rfl rfl rfl (fun h25 => ?_) (fun h25 => ?_) | refine seqGB rfl rfl rfl rfl (fun h25 => ?_) (fun h25 => ?_)
  rotate_left
  · skip
    refine seqU rfl rfl ?_
    refine seqU rfl rfl ?_
    refine seqU rfl rfl ?_
    refine seqQ rfl rfl (yPickF (v := .bool _) rfl rfl rfl) ?_
    refine seqQ rfl rfl (yAssign (v := .bool _) rfl rfl) ?_
    refine seqNil ?_
    refine hF2 _ _ ?_; clear hF2
    refine wpRet (fin1 (v := .bool _) rfl rfl ?_)
    exact ⟨by grind [NumP, BareP, AckP, OrderP, DataP], hx1.trans hx3⟩
  refine seqQ rfl rfl (yFieldAddr rfl Try.underlying27 rfl Try.sizeOf3 rfl rfl) ?_
  refine seqQ rfl rfl (yLoad rfl Try.underlying3 rfl rfl ((hB1.ext hx3).cell rfl)) ?_
  refine seqQ rfl rfl (yEql rfl rfl rfl) ?_
  refine seqQ rfl rfl (yPickT (v := .bool _) rfl rfl rfl) ?_
  refine seqQ rfl rfl (yAssign (v := .bool _) rfl rfl) ?_
  refine seqNil ?_
  refine hF2 _ _ ?_; clear hF2
  -- ret
  refine wpRet (fin1 (v := .bool _) rfl rfl ?_)
  exact ⟨by grind [NumP, BareP, AckP, OrderP, DataP], hx1.trans hx3⟩
set_option maxRecDepth 100000 in
theorem data_c (p : Pk) (A B : Option Addr) (ca cb : Nat) (H : Heap) (hA : Rd eVal H A p.vals) (hB : Rd eInt H B p.clk) :
    CallsH Try.prog 47 [.agg (pkC p A ca B cb).toArray] H fun v H' => v = .bool (decide (DataP p)) ∧ Ext H H' := by
  refine callsH_of Try.func47 rfl Try.ntmps47 (Nat.le_of_ble_eq_true rfl) ?_
  refine wpSeq fun F1 hF1 => ?_
  refine wpRegion ?_
  refine seqN rfl rfl (nBoxA rfl rfl) (fun g1 H1 hx1 hB1 hg1 hl1 => ?_)
  refine seqQ rfl rfl (yAssign (v := .bool _) rfl rfl) ?_
  refine seqNil ?_
  refine hF1 _ _ ?_; clear hF1
  refine wpSeq fun F2 hF2 => ?_
  refine wpRegion ?_
  refine seqQ rfl rfl (yLoadB hB1 rfl Try.underlying27 rfl Try.sizeOf27 rfl) ?_
  -- e slot 4: call F59<(farandole/packet.Packet).numbered> t3
  refine seqE rfl rfl (stepCall rfl Try.call59 rfl ?_)
  refine (numbered_c p A B ca cb _).mono ?_
  rintro v H2 ⟨rfl, hx2⟩
  first | refine seqG rfl rfl rfl rfl (fun h5 => ?_) (fun h5 => ?_) | refine seqGB rfl rfl rfl rfl (fun h5 => ?_) (fun h5 => ?_)
  rotate_left
  · skip
    refine seqU rfl rfl ?_
    refine seqU rfl rfl ?_
    refine seqU rfl rfl ?_
    refine seqU rfl rfl ?_
    refine seqU rfl rfl ?_
    refine seqU rfl rfl ?_
    refine seqU rfl rfl ?_
    refine seqU rfl rfl ?_
    refine seqQ rfl rfl (yPickF (v := .bool _) rfl rfl rfl) ?_
    refine seqQ rfl rfl (yMove (v := .bool false) rfl rfl) ?_
    refine seqU rfl rfl ?_
    refine seqU rfl rfl ?_
    refine seqU rfl rfl ?_
    refine seqQ rfl rfl (yPickF (v := .bool _) rfl rfl rfl) ?_
    refine seqQ rfl rfl (yMove (v := .bool false) rfl rfl) ?_
    refine seqU rfl rfl ?_
    refine seqU rfl rfl ?_
    refine seqU rfl rfl ?_
    refine seqQ rfl rfl (yPickF (v := .bool _) rfl rfl rfl) ?_
    refine seqQ rfl rfl (yMove (v := .bool false) rfl rfl) ?_
    refine seqU rfl rfl ?_
    refine seqU rfl rfl ?_
    refine seqU rfl rfl ?_
    refine seqU rfl rfl ?_
    refine seqQ rfl rfl (yPickF (v := .bool _) rfl rfl rfl) ?_
    refine seqQ rfl rfl (yMove (v := .bool false) rfl rfl) ?_
    refine seqU rfl rfl ?_
    refine seqU rfl rfl ?_
    refine seqU rfl rfl ?_
    refine seqU rfl rfl ?_
    refine seqQ rfl rfl (yPickF (v := .bool _) rfl rfl rfl) ?_
    refine seqQ rfl rfl (yMove (v := .bool false) rfl rfl) ?_
    refine seqU rfl rfl ?_
    refine seqU rfl rfl ?_
    refine seqU rfl rfl ?_
    refine seqU rfl rfl ?_
    refine seqQ rfl rfl (yPickF (v := .bool _) rfl rfl rfl) ?_
    refine seqQ rfl rfl (yMove (v := .bool false) rfl rfl) ?_
    refine seqU rfl rfl ?_
    refine seqU rfl rfl ?_
    refine seqU rfl rfl ?_
    refine seqU rfl rfl ?_
    refine seqQ rfl rfl (yPickF (v := .bool _) rfl rfl rfl) ?_
    refine seqQ rfl rfl (yAssign (v := .bool _) rfl rfl) ?_
    refine seqNil ?_
    refine hF2 _ _ ?_; clear hF2
    refine wpRet (fin1 (v := .bool _) rfl rfl ?_)
    exact ⟨by grind [NumP, BareP, AckP, OrderP, DataP], hx1.trans hx2⟩
  refine seqQ rfl rfl (yFieldAddr rfl Try.underlying27 rfl Try.sizeOf3 rfl rfl) ?_
  refine seqQ rfl rfl (yLoad rfl Try.underlying3 rfl rfl ((hB1.ext hx2).cell rfl)) ?_
  refine seqQ rfl rfl (yEql rfl rfl rfl) ?_
  -- guard t9
  refine seqMeet 11 [9, 10, 11, 12, 13] 13 (decide (p.epoch = 0 ∨ p.epoch = 1)) (fun hm3 => ?_) (fun J3 => ?_)
  · skip
    first | refine seqG rfl rfl rfl rfl (fun h9 => ?_) (fun h9 => ?_) | refine seqGB rfl rfl rfl rfl (fun h9 => ?_) (fun h9 => ?_)
    · skip
      refine seqU rfl rfl ?_
      refine seqU rfl rfl ?_
      refine seqU rfl rfl ?_
      refine seqQ rfl rfl (yPickT (v := .bool _) rfl rfl rfl) ?_
      exact hm3 _ (by repeat (first | (with_reducible exact Agree.refl _ _) | refine Agree.upd ?_ rfl | refine Agree.over ?_ rfl)) (by show Value.bool _ = Value.bool _; congr 1; simp [*])
    · skip
      refine seqQ rfl rfl (yFieldAddr rfl Try.underlying27 rfl Try.sizeOf3 rfl rfl) ?_
      refine seqQ rfl rfl (yLoad rfl Try.underlying3 rfl rfl ((hB1.ext hx2).cell rfl)) ?_
      refine seqQ rfl rfl (yEql rfl rfl rfl) ?_
      refine seqQ rfl rfl (yPickF (v := .bool _) rfl rfl rfl) ?_
      exact hm3 _ (by repeat (first | (with_reducible exact Agree.refl _ _) | refine Agree.upd ?_ rfl | refine Agree.over ?_ rfl)) (by show Value.bool _ = Value.bool _; congr 1; simp [*])
  refine seqQ rfl rfl (yPickT (v := .bool _) rfl rfl rfl) ?_
  first | refine seqG rfl rfl rfl rfl (fun h15 => ?_) (fun h15 => ?_) | refine seqGB rfl rfl rfl rfl (fun h15 => ?_) (fun h15 => ?_)
  rotate_left
  · skip
    refine seqU rfl rfl ?_
    refine seqU rfl rfl ?_
    refine seqU rfl rfl ?_
    refine seqQ rfl rfl (yPickF (v := .bool _) rfl rfl rfl) ?_
    refine seqQ rfl rfl (yMove (v := .bool false) rfl rfl) ?_
    refine seqU rfl rfl ?_
    refine seqU rfl rfl ?_
    refine seqU rfl rfl ?_
    refine seqQ rfl rfl (yPickF (v := .bool _) rfl rfl rfl) ?_
    refine seqQ rfl rfl (yMove (v := .bool false) rfl rfl) ?_
    refine seqU rfl rfl ?_
    refine seqU rfl rfl ?_
    refine seqU rfl rfl ?_
    refine seqU rfl rfl ?_
    refine seqQ rfl rfl (yPickF (v := .bool _) rfl rfl rfl) ?_
    refine seqQ rfl rfl (yMove (v := .bool false) rfl rfl) ?_
    refine seqU rfl rfl ?_
    refine seqU rfl rfl ?_
    refine seqU rfl rfl ?_
    refine seqU rfl rfl ?_
    refine seqQ rfl rfl (yPickF (v := .bool _) rfl rfl rfl) ?_
    refine seqQ rfl rfl (yMove (v := .bool false) rfl rfl) ?_
    refine seqU rfl rfl ?_
    refine seqU rfl rfl ?_
    refine seqU rfl rfl ?_
    refine seqU rfl rfl ?_
    refine seqQ rfl rfl (yPickF (v := .bool _) rfl rfl rfl) ?_
    refine seqQ rfl rfl (yMove (v := .bool false) rfl rfl) ?_
    refine seqU rfl rfl ?_
    refine seqU rfl rfl ?_
    refine seqU rfl rfl ?_
    refine seqU rfl rfl ?_
    refine seqQ rfl rfl (yPickF (v := .bool _) rfl rfl rfl) ?_
    refine seqQ rfl rfl (yAssign (v := .bool _) rfl rfl) ?_
    refine seqNil ?_
    refine hF2 _ _ ?_; clear hF2
    refine wpRet (fin1 (v := .bool _) rfl rfl ?_)
    exact ⟨by grind [NumP, BareP, AckP, OrderP, DataP], hx1.trans hx2⟩
  refine seqQ rfl rfl (yFieldAddr rfl Try.underlying27 rfl Try.sizeOf3 rfl rfl) ?_
  refine seqQ rfl rfl (yLoad rfl Try.underlying3 rfl rfl ((hB1.ext hx2).cell rfl)) ?_
  refine seqQ rfl rfl (yGeq rfl rfl rfl) ?_
  refine seqQ rfl rfl (yPickT (v := .bool _) rfl rfl rfl) ?_
  first | refine seqG rfl rfl rfl rfl (fun h20 => ?_) (fun h20 => ?_) | refine seqGB rfl rfl rfl rfl (fun h20 => ?_) (fun h20 => ?_)
  rotate_left
  · skip
    refine seqU rfl rfl ?_
    refine seqU rfl rfl ?_
    refine seqU rfl rfl ?_
    refine seqQ rfl rfl (yPickF (v := .bool _) rfl rfl rfl) ?_
    refine seqQ rfl rfl (yMove (v := .bool false) rfl rfl) ?_
    refine seqU rfl rfl ?_
    refine seqU rfl rfl ?_
    refine seqU rfl rfl ?_
    refine seqU rfl rfl ?_
    refine seqQ rfl rfl (yPickF (v := .bool _) rfl rfl rfl) ?_
    refine seqQ rfl rfl (yMove (v := .bool false) rfl rfl) ?_
    refine seqU rfl rfl ?_
    refine seqU rfl rfl ?_
    refine seqU rfl rfl ?_
    refine seqU rfl rfl ?_
    refine seqQ rfl rfl (yPickF (v := .bool _) rfl rfl rfl) ?_
    refine seqQ rfl rfl (yMove (v := .bool false) rfl rfl) ?_
    refine seqU rfl rfl ?_
    refine seqU rfl rfl ?_
    refine seqU rfl rfl ?_
    refine seqU rfl rfl ?_
    refine seqQ rfl rfl (yPickF (v := .bool _) rfl rfl rfl) ?_
    refine seqQ rfl rfl (yMove (v := .bool false) rfl rfl) ?_
    refine seqU rfl rfl ?_
    refine seqU rfl rfl ?_
    refine seqU rfl rfl ?_
    refine seqU rfl rfl ?_
    refine seqQ rfl rfl (yPickF (v := .bool _) rfl rfl rfl) ?_
    refine seqQ rfl rfl (yAssign (v := .bool _) rfl rfl) ?_
    refine seqNil ?_
    refine hF2 _ _ ?_; clear hF2
    refine wpRet (fin1 (v := .bool _) rfl rfl ?_)
    exact ⟨by grind [NumP, BareP, AckP, OrderP, DataP], hx1.trans hx2⟩
  refine seqQ rfl rfl (yFieldAddr rfl Try.underlying27 rfl Try.sizeOf3 rfl rfl) ?_
  refine seqQ rfl rfl (yLoad rfl Try.underlying3 rfl rfl ((hB1.ext hx2).cell rfl)) ?_
  refine seqQ rfl rfl (yLss rfl rfl rfl) ?_
  refine seqQ rfl rfl (yPickT (v := .bool _) rfl rfl rfl) ?_
  first | refine seqG rfl rfl rfl rfl (fun h25 => ?_) (fun h25 => ?_) | refine seqGB rfl rfl rfl rfl (fun h25 => ?_) (fun h25 => ?_)
  rotate_left
  · skip
    refine seqU rfl rfl ?_
    refine seqU rfl rfl ?_
    refine seqU rfl rfl ?_
    refine seqU rfl rfl ?_
    refine seqQ rfl rfl (yPickF (v := .bool _) rfl rfl rfl) ?_
    refine seqQ rfl rfl (yMove (v := .bool false) rfl rfl) ?_
    refine seqU rfl rfl ?_
    refine seqU rfl rfl ?_
    refine seqU rfl rfl ?_
    refine seqU rfl rfl ?_
    refine seqQ rfl rfl (yPickF (v := .bool _) rfl rfl rfl) ?_
    refine seqQ rfl rfl (yMove (v := .bool false) rfl rfl) ?_
    refine seqU rfl rfl ?_
    refine seqU rfl rfl ?_
    refine seqU rfl rfl ?_
    refine seqU rfl rfl ?_
    refine seqQ rfl rfl (yPickF (v := .bool _) rfl rfl rfl) ?_
    refine seqQ rfl rfl (yMove (v := .bool false) rfl rfl) ?_
    refine seqU rfl rfl ?_
    refine seqU rfl rfl ?_
    refine seqU rfl rfl ?_
    refine seqU rfl rfl ?_
    refine seqQ rfl rfl (yPickF (v := .bool _) rfl rfl rfl) ?_
    refine seqQ rfl rfl (yAssign (v := .bool _) rfl rfl) ?_
    refine seqNil ?_
    refine hF2 _ _ ?_; clear hF2
    refine wpRet (fin1 (v := .bool _) rfl rfl ?_)
    exact ⟨by grind [NumP, BareP, AckP, OrderP, DataP], hx1.trans hx2⟩
  refine seqQ rfl rfl (yFieldAddr rfl Try.underlying27 rfl Try.sizeOf24 rfl rfl) ?_
  refine seqQ rfl rfl (yLoad rfl Try.underlying24 rfl rfl ((hB1.ext hx2).cell rfl)) ?_
  refine seqQ rfl rfl (yLen rfl Try.underlying24 rfl) ?_
  refine seqQ rfl rfl (yLeq rfl rfl rfl) ?_
  refine seqQ rfl rfl (yPickT (v := .bool _) rfl rfl rfl) ?_
  first | refine seqG rfl rfl rfl rfl (fun h31 => ?_) (fun h31 => ?_) | refine seqGB rfl rfl rfl rfl (fun h31 => ?_) (fun h31 => ?_)
  rotate_left
  · skip
    refine seqU rfl rfl ?_
    refine seqU rfl rfl ?_
    refine seqU rfl rfl ?_
    refine seqU rfl rfl ?_
    refine seqQ rfl rfl (yPickF (v := .bool _) rfl rfl rfl) ?_
    refine seqQ rfl rfl (yMove (v := .bool false) rfl rfl) ?_
    refine seqU rfl rfl ?_
    refine seqU rfl rfl ?_
    refine seqU rfl rfl ?_
    refine seqU rfl rfl ?_
    refine seqQ rfl rfl (yPickF (v := .bool _) rfl rfl rfl) ?_
    refine seqQ rfl rfl (yMove (v := .bool false) rfl rfl) ?_
    refine seqU rfl rfl ?_
    refine seqU rfl rfl ?_
    refine seqU rfl rfl ?_
    refine seqU rfl rfl ?_
    refine seqQ rfl rfl (yPickF (v := .bool _) rfl rfl rfl) ?_
    refine seqQ rfl rfl (yAssign (v := .bool _) rfl rfl) ?_
    refine seqNil ?_
    refine hF2 _ _ ?_; clear hF2
    refine wpRet (fin1 (v := .bool _) rfl rfl ?_)
    exact ⟨by grind [NumP, BareP, AckP, OrderP, DataP], hx1.trans hx2⟩
  refine seqQ rfl rfl (yFieldAddr rfl Try.underlying27 rfl Try.sizeOf25 rfl rfl) ?_
  refine seqQ rfl rfl (yLoad rfl Try.underlying25 rfl rfl ((hB1.ext hx2).cell rfl)) ?_
  refine seqQ rfl rfl (yLen rfl Try.underlying25 rfl) ?_
  refine seqQ rfl rfl (yLeq rfl rfl rfl) ?_
  refine seqQ rfl rfl (yPickT (v := .bool _) rfl rfl rfl) ?_
  first | refine seqG rfl rfl rfl rfl (fun h37 => ?_) (fun h37 => ?_) | refine seqGB rfl rfl rfl rfl (fun h37 => ?_) (fun h37 => ?_)
  rotate_left
  · skip
    refine seqU rfl rfl ?_
    refine seqU rfl rfl ?_
    refine seqU rfl rfl ?_
    refine seqU rfl rfl ?_
    refine seqQ rfl rfl (yPickF (v := .bool _) rfl rfl rfl) ?_
    refine seqQ rfl rfl (yMove (v := .bool false) rfl rfl) ?_
    refine seqU rfl rfl ?_
    refine seqU rfl rfl ?_
    refine seqU rfl rfl ?_
    refine seqU rfl rfl ?_
    refine seqQ rfl rfl (yPickF (v := .bool _) rfl rfl rfl) ?_
    refine seqQ rfl rfl (yAssign (v := .bool _) rfl rfl) ?_
    refine seqNil ?_
    refine hF2 _ _ ?_; clear hF2
    refine wpRet (fin1 (v := .bool _) rfl rfl ?_)
    exact ⟨by grind [NumP, BareP, AckP, OrderP, DataP], hx1.trans hx2⟩
  refine seqQ rfl rfl (yFieldAddr rfl Try.underlying27 rfl Try.sizeOf24 rfl rfl) ?_
  refine seqQ rfl rfl (yLoad rfl Try.underlying24 rfl rfl ((hB1.ext hx2).cell rfl)) ?_
  -- e slot 40: call F60<slices.ContainsFunc[[]farandole/api.Value,farandole/api.Value]> t39 F61
  refine seqE rfl rfl (stepCall rfl Try.call60 rfl ?_)
  refine (containsV_c A ca p.vals _ (fun x => !properB x) _ ((hA.ext hx1).ext hx2) (by omega) Try.call61 (fun x H => data1_c x H)).mono ?_
  rintro v H3 ⟨rfl, hx3⟩
  refine seqQ rfl rfl (yNot rfl rfl) ?_
  refine seqQ rfl rfl (yPickT (v := .bool _) rfl rfl rfl) ?_
  first | refine seqG rfl rfl rfl rfl (fun h43 => ?_) (fun h43 => ?_) | refine seqGB rfl rfl rfl rfl (fun h43 => ?_) (fun h43 => ?_)
  rotate_left
  · skip
    refine seqU rfl rfl ?_
    refine seqU rfl rfl ?_
    refine seqU rfl rfl ?_
    refine seqU rfl rfl ?_
    refine seqQ rfl rfl (yPickF (v := .bool _) rfl rfl rfl) ?_
    refine seqQ rfl rfl (yAssign (v := .bool _) rfl rfl) ?_
    refine seqNil ?_
    refine hF2 _ _ ?_; clear hF2
    refine wpRet (fin1 (v := .bool _) rfl rfl ?_)
    exact ⟨by grind [NumP, BareP, AckP, OrderP, DataP], (hx1.trans hx2).trans hx3⟩
  refine seqQ rfl rfl (yFieldAddr rfl Try.underlying27 rfl Try.sizeOf25 rfl rfl) ?_
  refine seqQ rfl rfl (yLoad rfl Try.underlying25 rfl rfl (((hB1.ext hx2).ext hx3).cell rfl)) ?_
  -- e slot 46: call F63<slices.ContainsFunc[[]int,int]> t45 F64
  refine seqE rfl rfl (stepCall rfl Try.call63 rfl ?_)
  refine (containsI_c B cb p.clk _ (fun x => !seqB x) _ (((hB.ext hx1).ext hx2).ext hx3) (by omega) Try.call64 (fun x H => data2_c x H)).mono ?_
  rintro v H4 ⟨rfl, hx4⟩
  refine seqQ rfl rfl (yNot rfl rfl) ?_
  refine seqQ rfl rfl (yPickT (v := .bool _) rfl rfl rfl) ?_
  refine seqQ rfl rfl (yAssign (v := .bool _) rfl rfl) ?_
  refine seqNil ?_
  refine hF2 _ _ ?_; clear hF2
  -- ret
  refine wpRet (fin1 (v := .bool _) rfl rfl ?_)
  exact ⟨by grind [NumP, BareP, AckP, OrderP, DataP], ((hx1.trans hx2).trans hx3).trans hx4⟩
end Go.Proofs.Ytcfnmklbkhibgaa
