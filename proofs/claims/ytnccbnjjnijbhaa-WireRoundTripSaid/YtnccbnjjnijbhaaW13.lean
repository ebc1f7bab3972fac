/- Package wire: helpers of WirePrefix. -/
import Derived.Test.YtnccbnjjnijbhaaW11
import Derived.Test.YtnccbnjjnijbhaaLH
namespace Go.Proofs.Ytnccbnjjnijbhaa
open Go.ChangeShapes Go.WideShapes Go.ChangeAt Go.RowKit Go.Deep

set_option maxRecDepth 100000 in
theorem opn_bytes (W : World) : Opn Try.prog W 29 1 (fun a : Option Addr × Nat × List UInt8 => [.slice a.1 a.2.2.length a.2.1]) (fun a => Rd eByte W.heap a.1 a.2.2 ∧ (∀ x ∈ a.2.2, True) ∧ a.2.2.length ≤ a.2.1 ∧ a.2.1 ≤ maxLen) := opn_slice (c := eByte) Try.underlying29 (by kernel_rfl) (opn_byte Try.underlying5 (by kernel_rfl))
set_option maxRecDepth 100000 in
theorem opn_wv (W : World) : Opn Try.prog W 34 3 eWV.F (fun v => In64 v.kind ∧ In64 v.n) :=
  (opn_struct Try.underlying34 (by kernel_rfl) (opnF_cons rfl (opn_int Try.underlying3 (by kernel_rfl)) (opnF_cons rfl (opn_int Try.underlying3 (by kernel_rfl)) (opnF_cons rfl (opn_str Try.underlying9 (by kernel_rfl)) (opnF_nil rfl))))).map (fun a : Int × Int × ByteArray × Unit => (⟨a.1, a.2.1, a.2.2.1⟩ : Val)) (fun _ => rfl) (fun _ h => ⟨h.1, h.2.1⟩)
set_option maxRecDepth 100000 in
theorem opn_wvs (W : World) : Opn Try.prog W 24 1 (fun a : Option Addr × Nat × List Val => [.slice a.1 a.2.2.length a.2.1]) (fun a => Rd eWV W.heap a.1 a.2.2 ∧ (∀ x ∈ a.2.2, In64 x.kind ∧ In64 x.n) ∧ a.2.2.length ≤ a.2.1 ∧ a.2.1 ≤ maxLen) := opn_slice (c := eWV) Try.underlying24 (by kernel_rfl) (opn_wv W)
def EvOk (W : World) (x : Evt × Option Addr × Nat) : Prop := Rd eWV W.heap x.2.1 x.1.values ∧ In64 x.1.role ∧ In64 x.1.peer ∧ In64 x.1.label ∧ (∀ y ∈ x.1.values, In64 y.kind ∧ In64 y.n) ∧ x.1.values.length ≤ 9223372036854775807
set_option maxRecDepth 100000 in
theorem opn_evt (W : World) : Opn Try.prog W 61 5 (fun x : Evt × Option Addr × Nat => evC x.1 x.2.1 x.2.2) (EvOk W) :=
  (opn_struct Try.underlying61 (by kernel_rfl) (opnF_cons rfl (opn_int Try.underlying3 (by kernel_rfl)) (opnF_cons rfl (opn_bool Try.underlying4 (by kernel_rfl)) (opnF_cons rfl (opn_int Try.underlying3 (by kernel_rfl)) (opnF_cons rfl (opn_int Try.underlying3 (by kernel_rfl)) (opnF_cons rfl (opn_wvs W) (opnF_nil rfl))))))).map
    (fun a : Int × Bool × Int × Int × (Option Addr × Nat × List Val) × Unit => ((⟨a.1, a.2.1, a.2.2.1, a.2.2.2.1, a.2.2.2.2.1.2.2⟩ : Evt), a.2.2.2.2.1.1, a.2.2.2.2.1.2.1)) (fun _ => rfl)
    (fun a ha => ⟨ha.2.2.2.2.1.1, ha.1, ha.2.2.1, ha.2.2.2.1, ha.2.2.2.2.1.2.1, by have h1 := ha.2.2.2.2.1.2.2.1; have h2 := ha.2.2.2.2.1.2.2.2; have h3 := Nat.le_trans h1 h2; unfold maxLen at h3; exact h3⟩)

def fewV (l : List Val) : Prop := (∀ y ∈ l, y.s.size ≤ 200) ∧ l.length ≤ 40
instance (l : List Val) : Decidable (fewV l) := inferInstanceAs (Decidable (_ ∧ _))
set_option maxRecDepth 100000 in
theorem fewValues_c (A : Option Addr) (ca : Nat) (l : List Val) (H : Heap) (hA : Rd eWV H A l) (hlen : l.length ≤ 9223372036854775807) :
    CallsH Try.prog 9 [.slice A l.length ca] H fun v H' => v = .bool (decide (fewV l)) ∧ H' = H := by
  refine callsH_of Try.func9 rfl Try.ntmps9 (Nat.le_of_ble_eq_true rfl) ?_
  refine wpSeq fun F1 hF1 => ?_
  refine wpRegion ?_
  refine seqQ rfl rfl (yAssign (v := .bool _) rfl rfl) ?_
  refine seqNil ?_
  refine hF1 _ _ ?_; clear hF1
  refine wpSeq fun F2 hF2 => ?_
  refine wpSeq fun F3 hF3 => ?_
  refine wpRegion ?_
  refine seqQ rfl rfl (yAssign (v := .int _ _) rfl rfl) ?_
  refine seqNil ?_
  refine hF3 _ _ ?_; clear hF3
  -- loop
  refine wpBlock ?_
  refine wpLoopS [2, 3, 4, 5, 6, 7, 8, 9, 10, 11, 12, 13, 14, 15, 16] (fun k : Nat => [(3, .int .i64 k)]) (fun k H' => H' = H ∧ k ≤ l.length ∧ ∀ y ∈ l.take k, y.s.size ≤ 200) (fun k => l.length - k) 0 ⟨rfl, trivial⟩ ⟨rfl, Nat.zero_le _, by simp⟩ ?_
  rintro k J Hk ⟨rfl, hk, hall⟩
  refine wpSeq fun F4 hF4 => ?_
  refine wpSeq fun F5 hF5 => ?_
  refine wpRegion ?_
  refine seqQ rfl rfl (yMove (v := .int _ _) rfl rfl) ?_
  refine seqQ rfl rfl (yMove (v := .slice _ _ _) rfl rfl) ?_
  refine seqQ rfl rfl (yLen rfl Try.underlying24 rfl) ?_
  refine seqQ rfl rfl (yLss rfl rfl rfl) ?_
  refine seqNil ?_
  refine hF5 _ _ ?_; clear hF5
  -- if t7
  refine wpIf rfl (fun hlt => ?_) (fun hlt => ?_)
  · skip
    have hk : k < l.length := by omega
    obtain ⟨p, rfl, hp⟩ := hA.at hk
    refine wpSkip ?_
    refine hF4 _ _ ?_; clear hF4
    refine wpSeq fun F6 hF6 => ?_
    refine wpBlock ?_
    refine wpSeq fun F7 hF7 => ?_
    refine wpRegion ?_
    refine seqQ rfl rfl (yMove (v := .slice _ _ _) rfl rfl) ?_
    refine seqQ rfl rfl (yMove (v := .int _ _) rfl rfl) ?_
    refine seqQ rfl rfl (yIdx rfl Try.underlying24 Try.sizeOf34 rfl rfl rfl hk) ?_
    refine seqQ rfl rfl (yFieldAddr rfl Try.underlying34 rfl Try.sizeOf9 rfl rfl) ?_
    refine seqQ rfl rfl (yLoad rfl Try.underlying9 rfl rfl (hp 2 _ rfl)) ?_
    refine seqQ rfl rfl (yLenS rfl Try.underlying9 rfl) ?_
    refine seqQ rfl rfl (yGtr rfl rfl rfl) ?_
    refine seqNil ?_
    refine hF7 _ _ ?_; clear hF7
    -- if t16
    refine wpIf rfl (fun hgt => ?_) (fun hgt => ?_)
    · skip
      refine wpSeq fun F8 hF8 => ?_
      refine wpRegion ?_
      refine seqQ rfl rfl (yAssign (v := .bool _) rfl rfl) ?_
      refine seqNil ?_
      refine hF8 _ _ ?_; clear hF8
      -- ret
      refine wpRet (fin1 (v := .bool _) rfl rfl ?_)
      refine ⟨?_, rfl⟩
      rw [decide_eq_false]
      rintro ⟨h1, -⟩
      have := h1 l[k] (List.getElem_mem hk)
      omega
    · skip
      refine wpSkip ?_
      refine hF6 _ _ ?_; clear hF6
      refine wpRegion ?_
      refine seqQ rfl rfl (yMove (v := .int _ _) rfl rfl) ?_
      refine seqQ rfl rfl (yAdd rfl rfl rfl (by unfold In64; omega)) ?_
      refine seqQ rfl rfl (yAssign (v := .int _ _) rfl rfl) ?_
      refine seqNil ?_
      -- end loop
      exact loopEnd (k + 1) (by repeat (first | (with_reducible exact Agree.refl _ _) | refine Agree.upd ?_ rfl | refine Agree.over ?_ rfl)) (by omega) ⟨rfl, trivial⟩ ⟨rfl, hk, fun y hy => by
        rw [List.take_succ_eq_append_getElem hk, List.mem_append, List.mem_singleton] at hy
        rcases hy with hy | rfl
        · exact hall y hy
        · omega⟩
  · skip
    have ek : k = l.length := by omega
    subst ek
    rw [List.take_length] at hall
    refine wpExit ?_
    refine hF2 _ _ ?_; clear hF2
    refine wpSeq fun F9 hF9 => ?_
    refine wpRegion ?_
    refine seqQ rfl rfl (yMove (v := .slice _ _ _) rfl rfl) ?_
    refine seqQ rfl rfl (yLen rfl Try.underlying24 rfl) ?_
    refine seqQ rfl rfl (yLeq rfl rfl rfl) ?_
    refine seqQ rfl rfl (yAssign (v := .bool _) rfl rfl) ?_
    refine seqNil ?_
    refine hF9 _ _ ?_; clear hF9
    -- ret
    refine wpRet (fin1 (v := .bool _) rfl rfl ?_)
    refine ⟨?_, rfl⟩
    congr 1
    apply decide_eq_decide.2
    unfold fewV
    constructor
    · intro h
      exact ⟨hall, by omega⟩
    · rintro ⟨-, h⟩
      omega
set_option maxRecDepth 100000 in
theorem SameValues_nil (H : Heap) : CallsH Try.prog 15 [.slice none 0 0, .slice none 0 0] H fun v H' => v = .bool true ∧ H' = H := by
  refine callsH_of Try.func15 rfl Try.ntmps15 (Nat.le_of_ble_eq_true rfl) ?_
  refine wpSeq fun F1 hF1 => ?_
  refine wpRegion ?_
  refine seqQ rfl rfl (yAssign (v := .bool _) rfl rfl) ?_
  refine seqNil ?_
  refine hF1 _ _ ?_; clear hF1
  refine wpSeq fun F2 hF2 => ?_
  refine wpSeq fun F3 hF3 => ?_
  refine wpRegion ?_
  refine seqQ rfl rfl (yMove (v := .slice _ _ _) rfl rfl) ?_
  refine seqQ rfl rfl (yLen rfl Try.underlying24 rfl) ?_
  refine seqQ rfl rfl (yMove (v := .slice _ _ _) rfl rfl) ?_
  refine seqQ rfl rfl (yLen rfl Try.underlying24 rfl) ?_
  refine seqQ rfl rfl (yNeq rfl rfl rfl) ?_
  refine seqNil ?_
  refine hF3 _ _ ?_; clear hF3
  -- if t10
  refine wpF rfl ?_
  refine wpSkip ?_
  refine hF2 _ _ ?_; clear hF2
  refine wpSeq fun F4 hF4 => ?_
  refine wpSeq fun F5 hF5 => ?_
  refine wpRegion ?_
  refine seqQ rfl rfl (yAssign (v := .int _ _) rfl rfl) ?_
  refine seqNil ?_
  refine hF5 _ _ ?_; clear hF5
  -- loop
  refine wpBlock ?_
  refine wpLoopS [4, 5, 11, 12, 13, 14, 15, 16, 17, 18, 19, 20, 21, 22, 23, 24, 25] (fun k : Nat => [(5, .int .i64 k)]) (fun k H' => H' = H ∧ k = 0) (fun k => 0) 0 ⟨rfl, trivial⟩ ⟨rfl, rfl⟩ ?_
  rintro k J Hk ⟨rfl, rfl⟩
  refine wpSeq fun F6 hF6 => ?_
  refine wpSeq fun F7 hF7 => ?_
  refine wpRegion ?_
  refine seqQ rfl rfl (yMove (v := .int _ _) rfl rfl) ?_
  refine seqQ rfl rfl (yMove (v := .slice _ _ _) rfl rfl) ?_
  refine seqQ rfl rfl (yLen rfl Try.underlying24 rfl) ?_
  refine seqQ rfl rfl (yLss rfl rfl rfl) ?_
  refine seqNil ?_
  refine hF7 _ _ ?_; clear hF7
  -- if t14
  refine wpF rfl ?_
  refine wpExit ?_
  refine hF4 _ _ ?_; clear hF4
  refine wpSeq fun F8 hF8 => ?_
  refine wpRegion ?_
  refine seqQ rfl rfl (yAssign (v := .bool _) rfl rfl) ?_
  refine seqNil ?_
  refine hF8 _ _ ?_; clear hF8
  -- ret
  refine wpRet (fin1 (v := .bool _) rfl rfl ?_)
  exact ⟨rfl, rfl⟩
set_option maxRecDepth 100000 in
theorem SameEvent_zero (H : Heap) : CallsH Try.prog 33 [.agg (evC ev0 none 0).toArray, .agg (evC ev0 none 0).toArray] H fun v H' => v = .bool true ∧ Ext H H' := by
  refine callsH_of Try.func33 rfl Try.ntmps33 (Nat.le_of_ble_eq_true rfl) ?_
  refine wpSeq fun F1 hF1 => ?_
  refine wpRegion ?_
  refine seqN rfl rfl (nBoxA rfl rfl) (fun g2 H2 hx2 hB2 hg2 hl2 => ?_)
  refine seqN rfl rfl (nBoxA rfl rfl) (fun g3 H3 hx3 hB3 hg3 hl3 => ?_)
  refine seqQ rfl rfl (yAssign (v := .bool _) rfl rfl) ?_
  refine seqNil ?_
  refine hF1 _ _ ?_; clear hF1
  refine wpSeq fun F2 hF2 => ?_
  refine wpRegion ?_
  refine seqQ rfl rfl (yFieldAddr rfl Try.underlying61 rfl Try.sizeOf3 rfl rfl) ?_
  refine seqQ rfl rfl (yLoad rfl Try.underlying3 rfl rfl ((hB2.ext hx3).cell (j := 0) rfl)) ?_
  refine seqQ rfl rfl (yFieldAddr rfl Try.underlying61 rfl Try.sizeOf3 rfl rfl) ?_
  refine seqQ rfl rfl (yLoad rfl Try.underlying3 rfl rfl (hB3.cell (j := 0) rfl)) ?_
  refine seqQ rfl rfl (yEql rfl rfl rfl) ?_
  refine seqQ rfl rfl (yMove (v := .bool true) rfl rfl) ?_
  refine seqQ rfl rfl (yFieldAddr rfl Try.underlying61 rfl Try.sizeOf4 rfl rfl) ?_
  refine seqQ rfl rfl (yLoad rfl Try.underlying4 rfl rfl ((hB2.ext hx3).cell (j := 1) rfl)) ?_
  refine seqQ rfl rfl (yFieldAddr rfl Try.underlying61 rfl Try.sizeOf4 rfl rfl) ?_
  refine seqQ rfl rfl (yLoad rfl Try.underlying4 rfl rfl (hB3.cell (j := 1) rfl)) ?_
  refine seqQ rfl rfl (yEqlB rfl Try.underlying4 rfl rfl) ?_
  refine seqQ rfl rfl (yPickT (v := .bool _) rfl rfl rfl) ?_
  refine seqQ rfl rfl (yMove (v := .bool true) rfl rfl) ?_
  refine seqQ rfl rfl (yFieldAddr rfl Try.underlying61 rfl Try.sizeOf3 rfl rfl) ?_
  refine seqQ rfl rfl (yLoad rfl Try.underlying3 rfl rfl ((hB2.ext hx3).cell (j := 2) rfl)) ?_
  refine seqQ rfl rfl (yFieldAddr rfl Try.underlying61 rfl Try.sizeOf3 rfl rfl) ?_
  refine seqQ rfl rfl (yLoad rfl Try.underlying3 rfl rfl (hB3.cell (j := 2) rfl)) ?_
  refine seqQ rfl rfl (yEql rfl rfl rfl) ?_
  refine seqQ rfl rfl (yPickT (v := .bool _) rfl rfl rfl) ?_
  refine seqQ rfl rfl (yMove (v := .bool true) rfl rfl) ?_
  refine seqQ rfl rfl (yFieldAddr rfl Try.underlying61 rfl Try.sizeOf3 rfl rfl) ?_
  refine seqQ rfl rfl (yLoad rfl Try.underlying3 rfl rfl ((hB2.ext hx3).cell (j := 3) rfl)) ?_
  refine seqQ rfl rfl (yFieldAddr rfl Try.underlying61 rfl Try.sizeOf3 rfl rfl) ?_
  refine seqQ rfl rfl (yLoad rfl Try.underlying3 rfl rfl (hB3.cell (j := 3) rfl)) ?_
  refine seqQ rfl rfl (yEql rfl rfl rfl) ?_
  refine seqQ rfl rfl (yPickT (v := .bool _) rfl rfl rfl) ?_
  refine seqQ rfl rfl (yMove (v := .bool true) rfl rfl) ?_
  refine seqQ rfl rfl (yFieldAddr rfl Try.underlying61 rfl Try.sizeOf24 rfl rfl) ?_
  refine seqQ rfl rfl (yLoad rfl Try.underlying24 rfl rfl ((hB2.ext hx3).cell (j := 4) rfl)) ?_
  refine seqQ rfl rfl (yFieldAddr rfl Try.underlying61 rfl Try.sizeOf24 rfl rfl) ?_
  refine seqQ rfl rfl (yLoad rfl Try.underlying24 rfl rfl (hB3.cell (j := 4) rfl)) ?_
  -- e slot 36: call F15<farandole/farandoleref01.SameValues> t33 t35
  refine seqE rfl rfl (stepCall rfl Try.call15 rfl ?_)
  refine (SameValues_nil H3).mono ?_
  rintro v Hz ⟨rfl, e⟩
  obtain rfl := e.symm
  clear e
  refine seqQ rfl rfl (yPickT (v := .bool _) rfl rfl rfl) ?_
  refine seqQ rfl rfl (yAssign (v := .bool _) rfl rfl) ?_
  refine seqNil ?_
  refine hF2 _ _ ?_; clear hF2
  -- ret
  refine wpRet (fin1 (v := .bool _) rfl rfl ?_)
  exact ⟨rfl, hx2.trans hx3⟩
end Go.Proofs.Ytnccbnjjnijbhaa
