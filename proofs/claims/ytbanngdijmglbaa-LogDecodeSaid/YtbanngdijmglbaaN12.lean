/- The document's reader: booleans, events. -/
import Derived.Test.YtbanngdijmglbaaG7
namespace Go.Proofs.Ytbanngdijmglbaa
open Go.RowKit

set_option maxRecDepth 100000 in
theorem rBool01_c (g : Nat) (B : Option Addr) (cB : Nat) (D : List UInt8) (k : Nat) (f : Bool) (H : Heap) (h : RRd H g B cB D k f) :
    CallsH Try.prog 97 [.pointer (some ⟨g, 0, none⟩)] H fun v H' => Keep [g] H H' ∧ ∃ b f' k', v = .bool b ∧ RRd H' g B cB D k' f' ∧ prs pBool f D k = bif f' then none else some (b, D.drop k') := by
  have hle := h.le
  have hfew := h.few
  refine callsH_of Try.func97 rfl Try.ntmps97 (Nat.le_of_ble_eq_true rfl) ?_
  cases f
  · skip
    by_cases hk : k < D.length
    · skip
      obtain ⟨p, ep, hp⟩ := h.rd.rd.at1 hk
      have hdrop : D.drop k = D[k] :: D.drop (k + 1) := List.drop_eq_getElem_cons hk
      have hcc := D[k].toNat_lt
      replace hp : cellH H (p.add k) = some (.int .u8 (D[k].toNat : Int)) := hp
      refine wpSeq fun F1 hF1 => ?_
      refine wpRegion ?_
      refine seqQ rfl rfl (yAssign (v := .bool _) rfl rfl) ?_
      refine seqNil ?_
      refine hF1 _ _ ?_; clear hF1
      refine wpSeq fun F2 hF2 => ?_
      refine wpSeq fun F3 hF3 => ?_
      refine wpRegionD Try_mixed [.q, .q, .q, .q, .q, .q, .q, .q, .q, .q, .q, .q, .q, .q, .q, .q, .q, .q, .q, .q, .q, .q, .q, .q, .q, .q, .q, .q, .q] 25 [0, 1, 3, 7, 15, 31, 63, 127, 255, 31, 543, 1567, 3615, 7711, 16383, 32767, 65535, 131071, 262143, 524287, 1048575, 131071, 2228223, 6422527, 14811135, 33554431, 67108863, 134217727, 268435455] [] (by kernel_rfl) _ rfl [0, 1, 2, 3, 4, 5, 6, 7, 8, 9, 10, 11, 12, 13, 14, 15, 16, 17, 18, 19, 20, 21, 22, 23, 24] rfl (by simp) ?_
      refine lexQ rfl rfl rfl rfl (fun H hM => (yMove (v := .pointer _) rfl rfl)) ?_
      refine lexQ rfl rfl rfl rfl (fun H hM => (yNilCheck rfl rfl)) ?_
      refine lexQ rfl rfl rfl rfl (fun H hM => (yFieldAddr rfl Try.underlying126 rfl Try.sizeOf4 rfl rfl)) ?_
      refine lexQ rfl rfl rfl rfl (fun H hM => (yLoad rfl Try.underlying4 rfl rfl (hM.ext.cell (h.blk.cell rfl)))) ?_
      refine lexQ rfl rfl rfl rfl (fun H hM => (yMove (v := .bool false) rfl rfl)) ?_
      refine lexQ rfl rfl rfl rfl (fun H hM => (yMove (v := .pointer _) rfl rfl)) ?_
      refine lexQ rfl rfl rfl rfl (fun H hM => (yNilCheck rfl rfl)) ?_
      refine lexQ rfl rfl rfl rfl (fun H hM => (yFieldAddr rfl Try.underlying126 rfl Try.sizeOf3 rfl rfl)) ?_
      refine lexQ rfl rfl rfl rfl (fun H hM => (yLoad rfl Try.underlying3 rfl rfl (hM.ext.cell (h.blk.cell rfl)))) ?_
      refine lexQ rfl rfl rfl rfl (fun H hM => (yMove (v := .pointer _) rfl rfl)) ?_
      refine lexQ rfl rfl rfl rfl (fun H hM => (yNilCheck rfl rfl)) ?_
      refine lexQ rfl rfl rfl rfl (fun H hM => (yFieldAddr rfl Try.underlying126 rfl Try.sizeOf79 rfl rfl)) ?_
      refine lexQ rfl rfl rfl rfl (fun H hM => (yLoad rfl Try.underlying79 rfl rfl (hM.ext.cell (h.blk.cell rfl)))) ?_
      refine lexQ rfl rfl rfl rfl (fun H hM => (yLen rfl Try.underlying79 rfl)) ?_
      refine lexQ rfl rfl rfl rfl (fun H hM => (yGeq rfl rfl rfl)) ?_
      refine lexQ rfl rfl rfl rfl (fun H hM => (yPickF (v := .bool _) rfl rfl rfl)) ?_
      -- guard t19
      rw [decide_eq_false (show ¬ (D.length : Int) ≤ (k : Int) by omega)]
      refine lexQ rfl rfl rfl rfl (fun H hM => (yMove (v := .bool false) rfl rfl)) ?_
      refine lexQ rfl rfl rfl rfl (fun H hM => (yMove (v := .pointer _) rfl rfl)) ?_
      refine lexQ rfl rfl rfl rfl (fun H hM => (yNilCheck rfl rfl)) ?_
      refine lexQ rfl rfl rfl rfl (fun H hM => (yFieldAddr rfl Try.underlying126 rfl Try.sizeOf79 rfl rfl)) ?_
      refine lexQ rfl rfl rfl rfl (fun H hM => (yLoad rfl Try.underlying79 rfl rfl (hM.ext.cell (h.blk.cell rfl)))) ?_
      refine lexQ rfl rfl rfl rfl (fun H hM => (yMove (v := .pointer _) rfl rfl)) ?_
      refine lexQ rfl rfl rfl rfl (fun H hM => (yNilCheck rfl rfl)) ?_
      refine lexQ rfl rfl rfl rfl (fun H hM => (yFieldAddr rfl Try.underlying126 rfl Try.sizeOf3 rfl rfl)) ?_
      refine lexQ rfl rfl rfl rfl (fun H hM => (yLoad rfl Try.underlying3 rfl rfl (hM.ext.cell (h.blk.cell rfl)))) ?_
      -- tail
      refine lexNil0 rfl (fun hM => ?_)
      refine seqQ rfl rfl (yIdxP1 rfl Try.underlying79 Try.sizeOf5 rfl rfl ep rfl hk) ?_
      refine seqQ rfl rfl (yLoad rfl Try.underlying5 rfl rfl hp) ?_
      refine seqQ rfl rfl (yGtr rfl rfl rfl) ?_
      refine seqQ rfl rfl (yPickF (v := .bool _) rfl rfl rfl) ?_
      refine seqNil ?_
      refine hF3 _ _ ?_; clear hF3
      -- if t31
      refine wpIf rfl (fun hbig => ?_) (fun hbig => ?_)
      · skip
        refine wpSeq fun F4 hF4 => ?_
        refine wpRegion ?_
        refine seqQ rfl rfl (yMove (v := .pointer _) rfl rfl) ?_
        refine seqQ rfl rfl (yNilCheck rfl rfl) ?_
        refine seqQ rfl rfl (yFieldAddr rfl Try.underlying126 rfl Try.sizeOf4 rfl rfl) ?_
        -- e slot None: store T4 t34 [b:true]
        refine seqE0 rfl rfl (stepStore rfl Try.sizeOf4 rfl rfl rfl rfl h.blk (Nat.le_of_ble_eq_true rfl) ?_)
        intro H1 hB1 hK1
        have h1 := h.store (k' := k) (f' := true) hB1 hK1 hle
        refine seqNil ?_
        refine hF4 _ _ ?_; clear hF4
        refine wpSeq fun F5 hF5 => ?_
        refine wpRegion ?_
        refine seqQ rfl rfl (yAssign (v := .bool _) rfl rfl) ?_
        refine seqNil ?_
        refine hF5 _ _ ?_; clear hF5
        -- ret
        refine wpRet (fin1 (v := .bool _) rfl rfl ?_)
        refine ⟨hK1, false, true, k, rfl, h1, ?_⟩
        rw [prs_f, hdrop]
        show (if D[k].toNat ≤ 1 then _ else none) = _
        rw [if_neg (by omega)]
        rfl
      · skip
        refine wpSkip ?_
        refine hF2 _ _ ?_; clear hF2
        refine wpSeq fun F6 hF6 => ?_
        refine wpRegion ?_
        refine seqQ rfl rfl (yMove (v := .pointer _) rfl rfl) ?_
        refine seqQ rfl rfl (yNilCheck rfl rfl) ?_
        refine seqQ rfl rfl (yFieldAddr rfl Try.underlying126 rfl Try.sizeOf3 rfl rfl) ?_
        refine seqQ rfl rfl (yLoad rfl Try.underlying3 rfl rfl (h.blk.cell rfl)) ?_
        refine seqQ rfl rfl (yAdd rfl rfl rfl (by unfold In64; omega)) ?_
        refine seqQ rfl rfl (yNilCheck rfl rfl) ?_
        refine seqQ rfl rfl (yFieldAddr rfl Try.underlying126 rfl Try.sizeOf3 rfl rfl) ?_
        -- e slot None: store T3 t41 t39
        refine seqE0 rfl rfl (stepStore rfl Try.sizeOf3 rfl rfl rfl rfl h.blk (Nat.le_of_ble_eq_true rfl) ?_)
        intro H1 hB1 hK1
        have h1 := h.store (k' := k + 1) (f' := false) hB1 hK1 hk
        obtain ⟨p2, ep2, hp2⟩ := h1.rd.rd.at1 hk
        obtain rfl := Option.some.inj (ep.symm.trans ep2)
        replace hp2 : cellH H1 (p.add k) = some (.int .u8 (D[k].toNat : Int)) := hp2
        refine seqNil ?_
        refine hF6 _ _ ?_; clear hF6
        refine wpSeq fun F7 hF7 => ?_
        refine wpRegionD Try_mixed [.q, .q, .q, .q, .q, .q, .q, .q, .q, .q, .q, .q, .q] 9 [0, 1, 3, 7, 0, 16, 48, 112, 240, 511, 1023, 2047, 4095] [] (by kernel_rfl) _ rfl [0, 1, 2, 3, 4, 5, 6, 7, 8] rfl (by simp) ?_
        refine lexQ rfl rfl rfl rfl (fun H hM => (yMove (v := .pointer _) rfl rfl)) ?_
        refine lexQ rfl rfl rfl rfl (fun H hM => (yNilCheck rfl rfl)) ?_
        refine lexQ rfl rfl rfl rfl (fun H hM => (yFieldAddr rfl Try.underlying126 rfl Try.sizeOf79 rfl rfl)) ?_
        refine lexQ rfl rfl rfl rfl (fun H hM => (yLoad rfl Try.underlying79 rfl rfl (hM.ext.cell (h1.blk.cell rfl)))) ?_
        refine lexQ rfl rfl rfl rfl (fun H hM => (yMove (v := .pointer _) rfl rfl)) ?_
        refine lexQ rfl rfl rfl rfl (fun H hM => (yNilCheck rfl rfl)) ?_
        refine lexQ rfl rfl rfl rfl (fun H hM => (yFieldAddr rfl Try.underlying126 rfl Try.sizeOf3 rfl rfl)) ?_
        refine lexQ rfl rfl rfl rfl (fun H hM => (yLoad rfl Try.underlying3 rfl rfl (hM.ext.cell (h1.blk.cell rfl)))) ?_
        refine lexQ rfl rfl rfl rfl (fun H hM => (ySubE rfl rfl rfl (by unfold In64; omega) (show ((k + 1 : Nat) : Int) - 1 = (k : Int) by omega))) ?_
        -- tail
        refine lexNil0 rfl (fun hM => ?_)
        refine seqQ rfl rfl (yIdxP1 rfl Try.underlying79 Try.sizeOf5 rfl rfl ep rfl hk) ?_
        refine seqQ rfl rfl (yLoad rfl Try.underlying5 rfl rfl hp2) ?_
        refine seqQ rfl rfl (yEql rfl rfl rfl) ?_
        refine seqQ rfl rfl (yAssign (v := .bool _) rfl rfl) ?_
        refine seqNil ?_
        refine hF7 _ _ ?_; clear hF7
        -- ret
        refine wpRet (fin1 (v := .bool _) rfl rfl ?_)
        refine ⟨hK1, decide (D[k].toNat = 1), false, k + 1, ?_, h1, ?_⟩
        · show Value.bool (decide ((D[k].toNat : Int) = 1)) = Value.bool (decide (D[k].toNat = 1))
          rw [decide_eq_decide.2 (show ((D[k].toNat : Int) = 1) ↔ D[k].toNat = 1 by omega)]
        · rw [prs_f, hdrop]
          show (if D[k].toNat ≤ 1 then _ else none) = _
          rw [if_pos (by omega)]
          rfl
    · skip
      have hge : D.length ≤ k := by omega
      refine wpSeq fun F8 hF8 => ?_
      refine wpRegion ?_
      refine seqQ rfl rfl (yAssign (v := .bool _) rfl rfl) ?_
      refine seqNil ?_
      refine hF8 _ _ ?_; clear hF8
      refine wpSeq fun F9 hF9 => ?_
      refine wpSeq fun F10 hF10 => ?_
      refine wpRegionD Try_mixed [.q, .q, .q, .q, .q, .q, .q, .q, .q, .q, .q, .q, .q, .q, .q, .q, .q, .q, .q, .q, .q, .q, .q, .q, .q, .q, .q, .q, .q] 25 [0, 1, 3, 7, 15, 31, 63, 127, 255, 31, 543, 1567, 3615, 7711, 16383, 32767, 65535, 131071, 262143, 524287, 1048575, 131071, 2228223, 6422527, 14811135, 33554431, 67108863, 134217727, 268435455] [] (by kernel_rfl) _ rfl [0, 1, 2, 3, 4, 5, 6, 7, 8, 9, 10, 11, 12, 13, 14, 15, 16, 17, 18, 19, 20, 21, 22, 23, 24] rfl (by simp) ?_
      refine lexQ rfl rfl rfl rfl (fun H hM => (yMove (v := .pointer _) rfl rfl)) ?_
      refine lexQ rfl rfl rfl rfl (fun H hM => (yNilCheck rfl rfl)) ?_
      refine lexQ rfl rfl rfl rfl (fun H hM => (yFieldAddr rfl Try.underlying126 rfl Try.sizeOf4 rfl rfl)) ?_
      refine lexQ rfl rfl rfl rfl (fun H hM => (yLoad rfl Try.underlying4 rfl rfl (hM.ext.cell (h.blk.cell rfl)))) ?_
      refine lexQ rfl rfl rfl rfl (fun H hM => (yMove (v := .bool false) rfl rfl)) ?_
      refine lexQ rfl rfl rfl rfl (fun H hM => (yMove (v := .pointer _) rfl rfl)) ?_
      refine lexQ rfl rfl rfl rfl (fun H hM => (yNilCheck rfl rfl)) ?_
      refine lexQ rfl rfl rfl rfl (fun H hM => (yFieldAddr rfl Try.underlying126 rfl Try.sizeOf3 rfl rfl)) ?_
      refine lexQ rfl rfl rfl rfl (fun H hM => (yLoad rfl Try.underlying3 rfl rfl (hM.ext.cell (h.blk.cell rfl)))) ?_
      refine lexQ rfl rfl rfl rfl (fun H hM => (yMove (v := .pointer _) rfl rfl)) ?_
      refine lexQ rfl rfl rfl rfl (fun H hM => (yNilCheck rfl rfl)) ?_
      refine lexQ rfl rfl rfl rfl (fun H hM => (yFieldAddr rfl Try.underlying126 rfl Try.sizeOf79 rfl rfl)) ?_
      refine lexQ rfl rfl rfl rfl (fun H hM => (yLoad rfl Try.underlying79 rfl rfl (hM.ext.cell (h.blk.cell rfl)))) ?_
      refine lexQ rfl rfl rfl rfl (fun H hM => (yLen rfl Try.underlying79 rfl)) ?_
      refine lexQ rfl rfl rfl rfl (fun H hM => (yGeq rfl rfl rfl)) ?_
      refine lexQ rfl rfl rfl rfl (fun H hM => (yPickF (v := .bool _) rfl rfl rfl)) ?_
      -- guard t19
      rw [decide_eq_true (show (D.length : Int) ≤ (k : Int) by omega)]
      refine lexQ rfl rfl rfl rfl (fun H hM => (yMove (v := .bool true) rfl rfl)) ?_
      refine lexU rfl rfl rfl ?_
      refine lexU rfl rfl rfl ?_
      refine lexU rfl rfl rfl ?_
      refine lexU rfl rfl rfl ?_
      refine lexU rfl rfl rfl ?_
      refine lexU rfl rfl rfl ?_
      refine lexU rfl rfl rfl ?_
      refine lexU rfl rfl rfl ?_
      -- tail
      refine lexNil0 rfl (fun hM => ?_)
      refine seqU rfl rfl ?_
      refine seqU rfl rfl ?_
      refine seqU rfl rfl ?_
      refine seqQ rfl rfl (yPickT (v := .bool _) rfl rfl rfl) ?_
      refine seqNil ?_
      refine hF10 _ _ ?_; clear hF10
      -- if t31
      refine wpT rfl ?_
      refine wpSeq fun F11 hF11 => ?_
      refine wpRegion ?_
      refine seqQ rfl rfl (yMove (v := .pointer _) rfl rfl) ?_
      refine seqQ rfl rfl (yNilCheck rfl rfl) ?_
      refine seqQ rfl rfl (yFieldAddr rfl Try.underlying126 rfl Try.sizeOf4 rfl rfl) ?_
      -- e slot None: store T4 t34 [b:true]
      refine seqE0 rfl rfl (stepStore rfl Try.sizeOf4 rfl rfl rfl rfl h.blk (Nat.le_of_ble_eq_true rfl) ?_)
      intro H1 hB1 hK1
      have h1 := h.store (k' := k) (f' := true) hB1 hK1 hle
      refine seqNil ?_
      refine hF11 _ _ ?_; clear hF11
      refine wpSeq fun F12 hF12 => ?_
      refine wpRegion ?_
      refine seqQ rfl rfl (yAssign (v := .bool _) rfl rfl) ?_
      refine seqNil ?_
      refine hF12 _ _ ?_; clear hF12
      -- ret
      refine wpRet (fin1 (v := .bool _) rfl rfl ?_)
      refine ⟨hK1, false, true, k, rfl, h1, ?_⟩
      rw [prs_f, List.drop_of_length_le hge]
      rfl
  · skip
    refine wpSeq fun F13 hF13 => ?_
    refine wpRegion ?_
    refine seqQ rfl rfl (yAssign (v := .bool _) rfl rfl) ?_
    refine seqNil ?_
    refine hF13 _ _ ?_; clear hF13
    refine wpSeq fun F14 hF14 => ?_
    refine wpSeq fun F15 hF15 => ?_
    refine wpRegionD Try_mixed [.q, .q, .q, .q, .q, .q, .q, .q, .q, .q, .q, .q, .q, .q, .q, .q, .q, .q, .q, .q, .q, .q, .q, .q, .q, .q, .q, .q, .q] 25 [0, 1, 3, 7, 15, 31, 63, 127, 255, 31, 543, 1567, 3615, 7711, 16383, 32767, 65535, 131071, 262143, 524287, 1048575, 131071, 2228223, 6422527, 14811135, 33554431, 67108863, 134217727, 268435455] [] (by kernel_rfl) _ rfl [0, 1, 2, 3, 4, 5, 6, 7, 8, 9, 10, 11, 12, 13, 14, 15, 16, 17, 18, 19, 20, 21, 22, 23, 24] rfl (by simp) ?_
    refine lexQ rfl rfl rfl rfl (fun H hM => (yMove (v := .pointer _) rfl rfl)) ?_
    refine lexQ rfl rfl rfl rfl (fun H hM => (yNilCheck rfl rfl)) ?_
    refine lexQ rfl rfl rfl rfl (fun H hM => (yFieldAddr rfl Try.underlying126 rfl Try.sizeOf4 rfl rfl)) ?_
    refine lexQ rfl rfl rfl rfl (fun H hM => (yLoad rfl Try.underlying4 rfl rfl (hM.ext.cell (h.blk.cell rfl)))) ?_
    refine lexQ rfl rfl rfl rfl (fun H hM => (yMove (v := .bool true) rfl rfl)) ?_
    refine lexU rfl rfl rfl ?_
    refine lexU rfl rfl rfl ?_
    refine lexU rfl rfl rfl ?_
    refine lexU rfl rfl rfl ?_
    refine lexU rfl rfl rfl ?_
    refine lexU rfl rfl rfl ?_
    refine lexU rfl rfl rfl ?_
    refine lexU rfl rfl rfl ?_
    refine lexU rfl rfl rfl ?_
    refine lexU rfl rfl rfl ?_
    refine lexQ rfl rfl rfl rfl (fun H hM => (yPickT (v := .bool _) rfl rfl rfl)) ?_
    refine lexQ rfl rfl rfl rfl (fun H hM => (yMove (v := .bool true) rfl rfl)) ?_
    refine lexU rfl rfl rfl ?_
    refine lexU rfl rfl rfl ?_
    refine lexU rfl rfl rfl ?_
    refine lexU rfl rfl rfl ?_
    refine lexU rfl rfl rfl ?_
    refine lexU rfl rfl rfl ?_
    refine lexU rfl rfl rfl ?_
    refine lexU rfl rfl rfl ?_
    -- tail
    refine lexNil0 rfl (fun hM => ?_)
    refine seqU rfl rfl ?_
    refine seqU rfl rfl ?_
    refine seqU rfl rfl ?_
    refine seqQ rfl rfl (yPickT (v := .bool _) rfl rfl rfl) ?_
    refine seqNil ?_
    refine hF15 _ _ ?_; clear hF15
    -- if t31
    refine wpT rfl ?_
    refine wpSeq fun F16 hF16 => ?_
    refine wpRegion ?_
    refine seqQ rfl rfl (yMove (v := .pointer _) rfl rfl) ?_
    refine seqQ rfl rfl (yNilCheck rfl rfl) ?_
    refine seqQ rfl rfl (yFieldAddr rfl Try.underlying126 rfl Try.sizeOf4 rfl rfl) ?_
    -- e slot None: store T4 t34 [b:true]
    refine seqE0 rfl rfl (stepStore rfl Try.sizeOf4 rfl rfl rfl rfl h.blk (Nat.le_of_ble_eq_true rfl) ?_)
    intro H1 hB1 hK1
    have h1 := h.store (k' := k) (f' := true) hB1 hK1 hle
    refine seqNil ?_
    refine hF16 _ _ ?_; clear hF16
    refine wpSeq fun F17 hF17 => ?_
    refine wpRegion ?_
    refine seqQ rfl rfl (yAssign (v := .bool _) rfl rfl) ?_
    refine seqNil ?_
    refine hF17 _ _ ?_; clear hF17
    -- ret
    refine wpRet (fin1 (v := .bool _) rfl rfl ?_)
    exact ⟨hK1, false, true, k, rfl, h1, rfl⟩
set_option maxRecDepth 100000 in
theorem bif_of {α : Type} {p : List UInt8 → Option (α × List UInt8)} {f f' : Bool} {D : List UInt8} {k k' : Nat} {a : α} (h : (f' = true ∧ prs p f D k = none) ∨ (f' = false ∧ prs p f D k = some (a, D.drop k'))) : prs p f D k = bif f' then none else some (a, D.drop k') := by
  rcases h with ⟨rfl, h⟩ | ⟨rfl, h⟩ <;> exact h
set_option maxRecDepth 100000 in
theorem rEvt01_c (g : Nat) (B : Option Addr) (cB : Nat) (D : List UInt8) (k : Nat) (f : Bool) (H : Heap) (h : RRd H g B cB D k f) :
    CallsH Try.prog 66 [.pointer (some ⟨g, 0, none⟩)] H fun v H' => Keep [g] H H' ∧ ∃ x A c f' k', v = .agg (evC x A c).toArray ∧ RRd H' g B cB D k' f' ∧ Own eWV 88 H' H.size (.slice A x.values.length c) x.values ∧ (prs pEvt f D k = bif f' then none else some (x, D.drop k')) ∧ (f' = false → OkE x) := by
  have hle := h.le
  have lg := h.blk.lt
  refine callsH_of Try.func66 rfl Try.ntmps66 (Nat.le_of_ble_eq_true rfl) ?_
  refine wpSeq fun F1 hF1 => ?_
  refine wpRegion ?_
  refine seqN rfl rfl (nAlloc rfl Try.zeroValue26 rfl) (fun g2 H2 hx2 hB2 hg2 hl2 => ?_)
  refine seqNil ?_
  refine hF1 _ _ ?_; clear hF1
  refine wpSeq fun F2 hF2 => ?_
  refine wpRegion ?_
  refine seqQ rfl rfl (yMove (v := .pointer _) rfl rfl) ?_
  refine seqQ rfl rfl (yNilCheck rfl rfl) ?_
  refine seqQ rfl rfl (yFieldAddr rfl Try.underlying126 rfl Try.sizeOf3 rfl rfl) ?_
  refine seqQ rfl rfl (yLoad rfl Try.underlying3 rfl rfl ((h.ext hx2).blk.cell rfl)) ?_
  refine seqQ rfl rfl (yAssign (v := .int _ _) rfl rfl) ?_
  refine seqNil ?_
  refine hF2 _ _ ?_; clear hF2
  refine wpSeq fun F3 hF3 => ?_
  refine wpRegion ?_
  refine seqQ rfl rfl (yMove (v := .pointer _) rfl rfl) ?_
  -- e slot 10: call F95<(*farandole/farandoleref01.Reader).Int> t9
  refine seqE rfl rfl (stepCall rfl Try.call95 rfl ?_)
  have s2 := hx2.size
  refine (rInt01_c g B cB D k f H2 (h.ext hx2)).mono ?_
  rintro v H1 hr
  obtain ⟨hK1, na, f1, k1, rfl, h1, q1, d1⟩ := hr.int
  refine seqQ rfl rfl (yMove (v := .pointer _) rfl rfl) ?_
  -- e slot 12: call F97<(*farandole/farandoleref01.Reader).Bool> t11
  refine seqE rfl rfl (stepCall rfl Try.call97 rfl ?_)
  refine (rBool01_c g B cB D k1 f1 H1 h1).mono ?_
  rintro v H3 ⟨hK3, nb, f2, k2, rfl, h3, e2⟩
  refine seqQ rfl rfl (yMove (v := .pointer _) rfl rfl) ?_
  -- e slot 14: call F95<(*farandole/farandoleref01.Reader).Int> t13
  refine seqE rfl rfl (stepCall rfl Try.call95 rfl ?_)
  refine (rInt01_c g B cB D k2 f2 H3 h3).mono ?_
  rintro v H5 hr
  obtain ⟨hK5, nc, f3, k3, rfl, h5, q3, d3⟩ := hr.int
  refine seqQ rfl rfl (yMove (v := .pointer _) rfl rfl) ?_
  -- e slot 16: call F95<(*farandole/farandoleref01.Reader).Int> t15
  refine seqE rfl rfl (stepCall rfl Try.call95 rfl ?_)
  refine (rInt01_c g B cB D k3 f3 H5 h5).mono ?_
  rintro v H6 hr
  obtain ⟨hK6, nd, f4, k4, rfl, h6, q4, d4⟩ := hr.int
  have hKc : Keep [g] H2 H6 := hK1.trans (hK3.trans (hK5.trans hK6))
  have s6 := hKc.size
  have l2 := hB2.lt
  refine seqQ rfl rfl (yBuild (pl := [(0, 1), (1, 1), (2, 1), (3, 1), (4, 1)]) (vs := [(0, .int _ _), (1, .bool _), (2, .int _ _), (3, .int _ _)]) rfl Try.underlying26 Try.zeroValue26 rfl (by unfold Places; kernel_rfl) rfl rfl) ?_
  refine seqN rfl rfl (nAlloc rfl Try.zeroValue26 rfl) (fun g4 H4 hx4 hB4 hg4 hl4 => ?_)
  -- e slot None: store T26 t4 t17
  refine seqE0 rfl rfl (stepStoreB rfl (by kernel_rfl) rfl rfl rfl hB4 rfl ?_)
  intro H7 hB7 hK7
  have s4 := hx4.size
  have r7 := (h6.ext hx4).new h hK7 (by omega)
  have hKa : Keep [g] H H7 := keepNew (keepExt ((hx2.keep [g]).trans hKc) hx4) hK7 (by omega)
  have hB27 := ((hB2.keep hKc (by simp; omega)).ext hx4).keep hK7 (by simp; omega)
  have s7 := hK7.size
  have l47 := hB7.lt
  refine seqNil ?_
  refine hF3 _ _ ?_; clear hF3
  refine wpSeq fun F4 hF4 => ?_
  refine wpRegion ?_
  refine seqQ rfl rfl (yMove (v := .pointer _) rfl rfl) ?_
  -- e slot 19: call F98<(*farandole/farandoleref01.Reader).Values> t18 [i:i64:4]
  refine seqE rfl rfl (stepCall rfl Try.call98 rfl ?_)
  refine (rVals01_c g B cB D k4 f4 4 H7 r7 (by decide)).mono ?_
  rintro v H8 ⟨hK8, vs, A, c, f5, k5, rfl, r8, ov, d5⟩
  have s8 := hK8.size
  refine seqQ rfl rfl (yFieldAddr rfl Try.underlying26 rfl Try.sizeOf24 rfl rfl) ?_
  -- e slot None: store T24 t20 t19
  refine seqE0 rfl rfl (stepStore rfl Try.sizeOf24 rfl rfl rfl rfl (hB7.keep hK8 (by simp; omega)) (Nat.le_of_ble_eq_true rfl) ?_)
  intro H9 hB9 hK9
  have s9 := hK9.size
  have r9 := r8.new h hK9 (by omega)
  have hKb : Keep [g] H H9 := keepNew (hKa.trans hK8) hK9 (by omega)
  have hB29 := (hB27.keep hK8 (by simp; omega)).keep hK9 (by simp; omega)
  have ov9 := ov.keep hK9 (fun b hb => by have := (ov.lt b hb).1; simp; omega)
  obtain ⟨hch, hff⟩ := pEvt_chain (bif_of d1) e2 (bif_of d3) (bif_of d4) (bif_of (d5.imp id fun h => ⟨h.1, h.2.1⟩))
  refine seqNil ?_
  refine hF4 _ _ ?_; clear hF4
  refine wpSeq fun F5 hF5 => ?_
  refine wpSeq fun F6 hF6 => ?_
  refine wpRegion ?_
  refine seqQ rfl rfl (yMove (v := .pointer _) rfl rfl) ?_
  refine seqQ rfl rfl (yNilCheck rfl rfl) ?_
  refine seqQ rfl rfl (yFieldAddr rfl Try.underlying126 rfl Try.sizeOf4 rfl rfl) ?_
  refine seqQ rfl rfl (yLoad rfl Try.underlying4 rfl rfl (r9.blk.cell rfl)) ?_
  refine seqNil ?_
  refine hF6 _ _ ?_; clear hF6
  -- if t24
  cases f5
  · skip
    refine wpF rfl ?_
    refine wpSkip ?_
    refine hF5 _ _ ?_; clear hF5
    refine wpSeq fun F7 hF7 => ?_
    refine wpRegion ?_
    refine seqQ rfl rfl (yLoadB hB9 rfl Try.underlying26 rfl Try.sizeOf26 rfl) ?_
    -- e slot None: store T26 t2 t29
    refine seqE0 rfl rfl (stepStoreB rfl (by kernel_rfl) rfl rfl rfl hB29 rfl ?_)
    intro Hz hz hKz
    refine seqNil ?_
    refine hF7 _ _ ?_; clear hF7
    -- ret
    refine wpRet (finR1 rfl (resC Try.underlying26 rfl (by kernel_rfl) rfl hz) ?_)
    refine ⟨keepNew hKb hKz (by omega), ⟨na, nb, nc, nd, vs⟩, A, c, false, k5, rfl, r9.new h hKz (by omega), (ov9.keep hKz (fun b hb => by have := (ov.lt b hb).1; simp; omega)).mono (by omega), hch, fun _ => ?_⟩
    obtain ⟨rfl, rfl, rfl, rfl, rfl⟩ := hff rfl
    rcases d5 with ⟨h', _⟩ | ⟨-, hp, hq⟩
    · cases h'
    · have := pList_le hp
      exact ⟨q1 rfl, q3 rfl, q4 rfl, hq, by dsimp only; omega⟩
  · skip
    refine wpT rfl ?_
    refine wpSeq fun F8 hF8 => ?_
    refine wpRegion ?_
    refine seqQ rfl rfl (yMove (v := .pointer _) rfl rfl) ?_
    refine seqQ rfl rfl (yMove (v := .int _ _) rfl rfl) ?_
    -- e slot 27: call F96<(*farandole/farandoleref01.Reader).fail> t25 t26
    refine seqE rfl rfl (stepCall rfl Try.call96 rfl ?_)
    refine (rFail01_c g B cB D k5 k true H9 r9 hle).mono ?_
    rintro v Ha ⟨rfl, ra, hKf⟩
    have sa := hKf.size
    refine seqNil ?_
    refine hF8 _ _ ?_; clear hF8
    refine wpSeq fun F9 hF9 => ?_
    refine wpRegion ?_
    refine seqQ rfl rfl (yBuild (pl := [(0, 1), (1, 1), (2, 1), (3, 1), (4, 1)]) (vs := []) rfl Try.underlying26 Try.zeroValue26 rfl (by unfold Places; kernel_rfl) rfl rfl) ?_
    -- e slot None: store T26 t2 t28
    refine seqE0 rfl rfl (stepStoreB rfl (by kernel_rfl) rfl rfl rfl (hB29.keep hKf (by simp; omega)) rfl ?_)
    intro Hz hz hKz
    refine seqNil ?_
    refine hF9 _ _ ?_; clear hF9
    -- ret
    refine wpRet (finR1 rfl (resC Try.underlying26 rfl (by kernel_rfl) rfl hz) ?_)
    exact ⟨keepNew (hKb.trans hKf) hKz (by omega), ev0, none, 0, true, k, rfl, ra.new h hKz (by omega), Own.nil _ _, hch, fun h => by cases h⟩
end Go.Proofs.Ytbanngdijmglbaa
