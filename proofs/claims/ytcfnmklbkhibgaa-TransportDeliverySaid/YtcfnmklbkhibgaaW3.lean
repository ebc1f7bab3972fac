/- Package wire: the reader: next, integer. -/
import Derived.Test.YtcfnmklbkhibgaaW2
namespace Go.Proofs.Ytcfnmklbkhibgaa
open Go.RowKit

/-- Block g is a reader of the bytes D, at offset k; f: it has failed. -/
structure Rdr (H : Heap) (g : Nat) (B : Option Addr) (cB : Nat) (D : List UInt8) (k : Nat) (f : Bool) : Prop where
  blk : Blk H g [.slice B D.length cB, .int .i64 k, .bool f] 134
  rd : RdM eByte [g] H B D
  le : k ≤ D.length
  cap : D.length ≤ cB
  few : D.length ≤ 1000000
section
variable {H H' : Heap} {g : Nat} {B : Option Addr} {cB : Nat} {D : List UInt8} {k : Nat} {f : Bool}
set_option maxRecDepth 100000 in
theorem Rdr.ext (h : Rdr H g B cB D k f) (hx : Ext H H') : Rdr H' g B cB D k f := ⟨h.blk.ext hx, h.rd.tr (Tr.of_ext hx _), h.le, h.cap, h.few⟩
set_option maxRecDepth 100000 in
theorem Rdr.store {k' : Nat} {f' : Bool} (h : Rdr H g B cB D k f) (hB : Blk H' g [.slice B D.length cB, .int .i64 k', .bool f'] 134) (hK : Keep [g] H H') (hk : k' ≤ D.length) : Rdr H' g B cB D k' f' :=
  ⟨hB, h.rd.tr (Tr.store hK (by simp)), hk, h.cap, h.few⟩
end
set_option maxRecDepth 100000 in
theorem RdM.sub {α : Type} {c : El α} {M : List Nat} {H : Heap} {A : Option Addr} {l : List α} {cap k n : Nat} (h : RdM c M H A l) (hc : l.length ≤ cap) : RdM c M H (if cap = k then A else A.map (·.add (k * c.sz))) ((l.drop k).take n) := fun hn => by
  obtain ⟨p, e, hcell⟩ := ((h.rd.drop (k := k) hc).take n) hn
  obtain ⟨q, eq, hm, _⟩ := h (by intro h; subst h; simp at hn)
  refine ⟨p, e, ?_, hcell⟩
  subst eq
  split at e
  · obtain rfl := Option.some.inj e; exact hm
  · simp only [Option.map_some, Option.some.injEq] at e
    subst e
    rw [block_of_add]
    exact hm
set_option maxRecDepth 100000 in
theorem next_c (g : Nat) (B : Option Addr) (cB : Nat) (D : List UInt8) (k n : Nat) (f : Bool) (H : Heap) (h : Rdr H g B cB D k f) (hn : n ≤ 1000000000) :
    CallsH Try.prog 103 [.pointer (some ⟨g, 0, none⟩), .int .i64 n] H fun v H' => Keep [g] H H' ∧ (((f = true ∨ D.length < k + n) ∧ v = .slice none 0 0 ∧ Rdr H' g B cB D k true) ∨
      (f = false ∧ k + n ≤ D.length ∧ ∃ A c, v = .slice A n c ∧ Rdr H' g B cB D (k + n) false ∧ RdM eByte [g] H' A ((D.drop k).take n))) := by
  have hle := h.le
  have hfew := h.few
  refine callsH_of Try.func103 rfl Try.ntmps103 (Nat.le_of_ble_eq_true rfl) ?_
  refine wpSeq fun F1 hF1 => ?_
  refine wpRegion ?_
  refine seqQ rfl rfl (yAssign (v := .slice _ _ _) rfl rfl) ?_
  refine seqNil ?_
  refine hF1 _ _ ?_; clear hF1
  refine wpSeq fun F2 hF2 => ?_
  refine wpSeq fun F3 hF3 => ?_
  refine wpRegionD Try_mixed [.q, .q, .q, .q, .q, .q, .q, .q, .q, .q, .q, .q, .q, .q, .q, .q, .q, .q] 16 [0, 1, 3, 7, 15, 31, 31, 95, 223, 479, 991, 31, 2079, 6175, 14367, 32735, 65535, 131071] [] (by kernel_rfl) _ rfl [0, 1, 2, 3, 4, 5, 6, 7, 8, 9, 10, 11, 12, 13, 14, 15] rfl (by simp) ?_
  refine lexQ rfl rfl rfl rfl (fun H hM => (yMove (v := .pointer _) rfl rfl)) ?_
  refine lexQ rfl rfl rfl rfl (fun H hM => (yNilCheck rfl rfl)) ?_
  refine lexQ rfl rfl rfl rfl (fun H hM => (yFieldAddr rfl Try.underlying134 rfl Try.sizeOf4 rfl rfl)) ?_
  refine lexQ rfl rfl rfl rfl (fun H hM => (yLoad rfl Try.underlying4 rfl rfl (hM.ext.cell (h.blk.cell rfl)))) ?_
  -- guard t9
  cases f
  · skip
    by_cases hlt : D.length < k + n
    · skip
      refine lexQ rfl rfl rfl rfl (fun H hM => (yMove (v := .bool false) rfl rfl)) ?_
      refine lexQ rfl rfl rfl rfl (fun H hM => (yMove (v := .int _ _) rfl rfl)) ?_
      refine lexQ rfl rfl rfl rfl (fun H hM => (yMove (v := .pointer _) rfl rfl)) ?_
      refine lexQ rfl rfl rfl rfl (fun H hM => (yNilCheck rfl rfl)) ?_
      refine lexQ rfl rfl rfl rfl (fun H hM => (yFieldAddr rfl Try.underlying134 rfl Try.sizeOf58 rfl rfl)) ?_
      refine lexQ rfl rfl rfl rfl (fun H hM => (yLoad rfl Try.underlying58 rfl rfl (hM.ext.cell (h.blk.cell rfl)))) ?_
      refine lexQ rfl rfl rfl rfl (fun H hM => (yLen rfl Try.underlying58 rfl)) ?_
      refine lexQ rfl rfl rfl rfl (fun H hM => (yMove (v := .pointer _) rfl rfl)) ?_
      refine lexQ rfl rfl rfl rfl (fun H hM => (yNilCheck rfl rfl)) ?_
      refine lexQ rfl rfl rfl rfl (fun H hM => (yFieldAddr rfl Try.underlying134 rfl Try.sizeOf3 rfl rfl)) ?_
      refine lexQ rfl rfl rfl rfl (fun H hM => (yLoad rfl Try.underlying3 rfl rfl (hM.ext.cell (h.blk.cell rfl)))) ?_
      refine lexQ rfl rfl rfl rfl (fun H hM => (ySub rfl rfl rfl (by unfold In64; omega))) ?_
      -- tail
      refine lexNil0 rfl (fun hM => ?_)
      refine seqQ rfl rfl (yGtr rfl rfl rfl) ?_
      refine seqQ rfl rfl (yPickF (v := .bool _) rfl rfl rfl) ?_
      refine seqNil ?_
      refine hF3 _ _ ?_; clear hF3
      -- if t22
      rw [show (decide ((D.length : Int) - (k : Int) < (n : Int))) = true by simp; omega]
      refine wpT rfl ?_
      refine wpSeq fun F4 hF4 => ?_
      refine wpRegion ?_
      refine seqQ rfl rfl (yMove (v := .pointer _) rfl rfl) ?_
      refine seqQ rfl rfl (yNilCheck rfl rfl) ?_
      refine seqQ rfl rfl (yFieldAddr rfl Try.underlying134 rfl Try.sizeOf4 rfl rfl) ?_
      -- e slot None: store T4 t25 [b:true]
      refine seqE0 rfl rfl (stepStore rfl Try.sizeOf4 rfl rfl rfl rfl h.blk (Nat.le_of_ble_eq_true rfl) ?_)
      intro H3 hB3 hK3
      refine seqNil ?_
      refine hF4 _ _ ?_; clear hF4
      refine wpSeq fun F5 hF5 => ?_
      refine wpRegion ?_
      refine seqQ rfl rfl (yAssign (v := .slice _ _ _) rfl rfl) ?_
      refine seqNil ?_
      refine hF5 _ _ ?_; clear hF5
      -- ret
      refine wpRet (fin1 (v := .slice _ _ _) rfl rfl ?_)
      exact ⟨hK3, .inl ⟨.inr hlt, rfl, h.store hB3 hK3 hle⟩⟩
    · skip
      refine lexQ rfl rfl rfl rfl (fun H hM => (yMove (v := .bool false) rfl rfl)) ?_
      refine lexQ rfl rfl rfl rfl (fun H hM => (yMove (v := .int _ _) rfl rfl)) ?_
      refine lexQ rfl rfl rfl rfl (fun H hM => (yMove (v := .pointer _) rfl rfl)) ?_
      refine lexQ rfl rfl rfl rfl (fun H hM => (yNilCheck rfl rfl)) ?_
      refine lexQ rfl rfl rfl rfl (fun H hM => (yFieldAddr rfl Try.underlying134 rfl Try.sizeOf58 rfl rfl)) ?_
      refine lexQ rfl rfl rfl rfl (fun H hM => (yLoad rfl Try.underlying58 rfl rfl (hM.ext.cell (h.blk.cell rfl)))) ?_
      refine lexQ rfl rfl rfl rfl (fun H hM => (yLen rfl Try.underlying58 rfl)) ?_
      refine lexQ rfl rfl rfl rfl (fun H hM => (yMove (v := .pointer _) rfl rfl)) ?_
      refine lexQ rfl rfl rfl rfl (fun H hM => (yNilCheck rfl rfl)) ?_
      refine lexQ rfl rfl rfl rfl (fun H hM => (yFieldAddr rfl Try.underlying134 rfl Try.sizeOf3 rfl rfl)) ?_
      refine lexQ rfl rfl rfl rfl (fun H hM => (yLoad rfl Try.underlying3 rfl rfl (hM.ext.cell (h.blk.cell rfl)))) ?_
      refine lexQ rfl rfl rfl rfl (fun H hM => (ySub rfl rfl rfl (by unfold In64; omega))) ?_
      -- tail
      refine lexNil0 rfl (fun hM => ?_)
      refine seqQ rfl rfl (yGtr rfl rfl rfl) ?_
      refine seqQ rfl rfl (yPickF (v := .bool _) rfl rfl rfl) ?_
      refine seqNil ?_
      refine hF3 _ _ ?_; clear hF3
      -- if t22
      rw [show (decide ((D.length : Int) - (k : Int) < (n : Int))) = false by simp; omega]
      refine wpF rfl ?_
      refine wpSkip ?_
      refine hF2 _ _ ?_; clear hF2
      refine wpSeq fun F6 hF6 => ?_
      refine wpRegion ?_
      refine seqQ rfl rfl (yMove (v := .pointer _) rfl rfl) ?_
      refine seqQ rfl rfl (yNilCheck rfl rfl) ?_
      refine seqQ rfl rfl (yFieldAddr rfl Try.underlying134 rfl Try.sizeOf3 rfl rfl) ?_
      refine seqQ rfl rfl (yLoad rfl Try.underlying3 rfl rfl (h.blk.cell rfl)) ?_
      refine seqQ rfl rfl (yMove (v := .int _ _) rfl rfl) ?_
      refine seqQ rfl rfl (yAddE rfl rfl rfl (by unfold In64; omega) (show (k : Int) + (n : Int) = ((k + n : Nat) : Int) by omega)) ?_
      refine seqQ rfl rfl (yNilCheck rfl rfl) ?_
      refine seqQ rfl rfl (yFieldAddr rfl Try.underlying134 rfl Try.sizeOf3 rfl rfl) ?_
      -- e slot None: store T3 t33 t31
      refine seqE0 rfl rfl (stepStore rfl Try.sizeOf3 rfl rfl rfl rfl h.blk (Nat.le_of_ble_eq_true rfl) ?_)
      intro H3 hB3 hK3
      have h3 := h.store (k' := k + n) hB3 hK3 (by omega)
      refine seqNil ?_
      refine hF6 _ _ ?_; clear hF6
      refine wpSeq fun F7 hF7 => ?_
      refine wpRegionD Try_mixed [.q, .q, .q, .q, .q, .q, .q, .q, .q, .q, .q, .q, .q, .q, .q, .q] 14 [0, 1, 3, 7, 0, 16, 48, 112, 0, 496, 0, 1024, 3072, 7168, 16383, 32767] [] (by kernel_rfl) _ rfl [0, 1, 2, 3, 4, 5, 6, 7, 8, 9, 10, 11, 12, 13] rfl (by simp) ?_
      refine lexQ rfl rfl rfl rfl (fun H hM => (yMove (v := .pointer _) rfl rfl)) ?_
      refine lexQ rfl rfl rfl rfl (fun H hM => (yNilCheck rfl rfl)) ?_
      refine lexQ rfl rfl rfl rfl (fun H hM => (yFieldAddr rfl Try.underlying134 rfl Try.sizeOf58 rfl rfl)) ?_
      refine lexQ rfl rfl rfl rfl (fun H hM => (yLoad rfl Try.underlying58 rfl rfl (hM.ext.cell (h3.blk.cell rfl)))) ?_
      refine lexQ rfl rfl rfl rfl (fun H hM => (yMove (v := .pointer _) rfl rfl)) ?_
      refine lexQ rfl rfl rfl rfl (fun H hM => (yNilCheck rfl rfl)) ?_
      refine lexQ rfl rfl rfl rfl (fun H hM => (yFieldAddr rfl Try.underlying134 rfl Try.sizeOf3 rfl rfl)) ?_
      refine lexQ rfl rfl rfl rfl (fun H hM => (yLoad rfl Try.underlying3 rfl rfl (hM.ext.cell (h3.blk.cell rfl)))) ?_
      refine lexQ rfl rfl rfl rfl (fun H hM => (yMove (v := .int _ _) rfl rfl)) ?_
      refine lexQ rfl rfl rfl rfl (fun H hM => (ySubE rfl rfl rfl (by unfold In64; omega) (show ((k + n : Nat) : Int) - (n : Int) = (k : Int) by omega))) ?_
      refine lexQ rfl rfl rfl rfl (fun H hM => (yMove (v := .pointer _) rfl rfl)) ?_
      refine lexQ rfl rfl rfl rfl (fun H hM => (yNilCheck rfl rfl)) ?_
      refine lexQ rfl rfl rfl rfl (fun H hM => (yFieldAddr rfl Try.underlying134 rfl Try.sizeOf3 rfl rfl)) ?_
      refine lexQ rfl rfl rfl rfl (fun H hM => (yLoad rfl Try.underlying3 rfl rfl (hM.ext.cell (h3.blk.cell rfl)))) ?_
      -- tail
      refine lexNil0 rfl (fun hM => ?_)
      refine seqQ rfl rfl (ySliceLH rfl Try.underlying58 Try.sizeOf5 rfl rfl rfl rfl rfl (by omega) (by have := h.cap; omega)) ?_
      refine seqQ rfl rfl (yAssign (v := .slice _ _ _) rfl rfl) ?_
      refine seqNil ?_
      refine hF7 _ _ ?_; clear hF7
      -- ret
      refine wpRet (fin1 (v := .slice _ _ _) rfl rfl ?_)
      have := h3.rd.sub (k := k) (n := n) h.cap
      rw [show k + n - k = n by omega]
      exact ⟨hK3, .inr ⟨rfl, by omega, _, _, rfl, h3, this⟩⟩
  · skip
    refine lexQ rfl rfl rfl rfl (fun H hM => (yMove (v := .bool true) rfl rfl)) ?_
    refine lexU rfl rfl rfl ?_
    refine lexU rfl rfl rfl ?_
    refine lexU rfl rfl rfl ?_
    refine lexU rfl rfl rfl ?_
    refine lexU rfl rfl rfl ?_
    refine lexU rfl rfl rfl ?_
    refine lexU rfl rfl rfl ?_
    refine lexU rfl rfl rfl ?_
    refine lexU rfl rfl rfl ?_
    refine lexU rfl rfl rfl ?_
    refine lexU rfl rfl rfl ?_
    -- tail
    refine lexNil0 rfl (fun hM => ?_)
    refine seqU rfl rfl ?_
    refine seqQ rfl rfl (yPickT (v := .bool _) rfl rfl rfl) ?_
    refine seqNil ?_
    refine hF3 _ _ ?_; clear hF3
    -- if t22
    refine wpT rfl ?_
    refine wpSeq fun F8 hF8 => ?_
    refine wpRegion ?_
    refine seqQ rfl rfl (yMove (v := .pointer _) rfl rfl) ?_
    refine seqQ rfl rfl (yNilCheck rfl rfl) ?_
    refine seqQ rfl rfl (yFieldAddr rfl Try.underlying134 rfl Try.sizeOf4 rfl rfl) ?_
    -- e slot None: store T4 t25 [b:true]
    refine seqE0 rfl rfl (stepStore rfl Try.sizeOf4 rfl rfl rfl rfl h.blk (Nat.le_of_ble_eq_true rfl) ?_)
    intro H3 hB3 hK3
    refine seqNil ?_
    refine hF8 _ _ ?_; clear hF8
    refine wpSeq fun F9 hF9 => ?_
    refine wpRegion ?_
    refine seqQ rfl rfl (yAssign (v := .slice _ _ _) rfl rfl) ?_
    refine seqNil ?_
    refine hF9 _ _ ?_; clear hF9
    -- ret
    refine wpRet (fin1 (v := .slice _ _ _) rfl rfl ?_)
    exact ⟨hK3, .inl ⟨.inl rfl, rfl, h.store hB3 hK3 hle⟩⟩
end Go.Proofs.Ytcfnmklbkhibgaa
