/- Package transport: clone, Interval, Valid. -/
import Derived.Test.YtcfnmklbkhibgaaK5
namespace Go.Proofs.Ytcfnmklbkhibgaa
open Go.RowKit

set_option maxRecDepth 100000 in
theorem cloneI_c (A : Option Addr) (c : Nat) (l : List Int) (H : Heap) (hA : Rd eInt H A l) (hl : l.length ≤ 1000000000) :
    CallsH Try.prog 46 [.slice A l.length c] H fun v H' => Own eInt 3 H' H.size v l ∧ Ext H H' := by
  refine callsH_of Try.func46 rfl Try.ntmps46 (Nat.le_of_ble_eq_true rfl) ?_
  refine wpSeq fun F1 hF1 => ?_
  refine wpRegion ?_
  refine seqQ rfl rfl (yAssign (v := .slice _ _ _) rfl rfl) ?_
  refine seqNil ?_
  refine hF1 _ _ ?_; clear hF1
  refine wpSeq fun F2 hF2 => ?_
  refine wpSeq fun F3 hF3 => ?_
  refine wpRegion ?_
  refine seqQ rfl rfl (yMove (v := .slice _ _ _) rfl rfl) ?_
  refine seqQ rfl rfl (yEqlNil rfl Try.underlying25 rfl rfl) ?_
  refine seqNil ?_
  refine hF3 _ _ ?_; clear hF3
  -- if t4
  refine wpCond rfl (fun hn => ?_) (fun hn => ?_)
  · skip
    obtain rfl : A = none := by simpa using hn
    have : l = [] := by
      cases l with
      | nil => rfl
      | cons x l => obtain ⟨p, e, _⟩ := hA (by simp); cases e
    subst this
    refine wpSeq fun F4 hF4 => ?_
    refine wpRegion ?_
    refine seqQ rfl rfl (yAssign (v := .slice _ _ _) rfl rfl) ?_
    refine seqNil ?_
    refine hF4 _ _ ?_; clear hF4
    -- ret
    refine wpRet (fin1 (v := .slice _ _ _) rfl rfl ?_)
    exact ⟨Own.nil _ _, Ext.refl _⟩
  · skip
    refine wpSkip ?_
    refine hF2 _ _ ?_; clear hF2
    refine wpSeq fun F5 hF5 => ?_
    refine wpRegion ?_
    refine seqN rfl rfl (nBuildSlice (vs := []) rfl Try.underlying25 Try.sizeOf3 Try.zeroValue3 rfl rfl rfl rfl) (fun g5 H5 hx5 hB5 hg5 hl5 => ?_)
    refine seqQ rfl rfl (yMove (v := .slice _ _ _) rfl rfl) ?_
    -- e slot 7: builtin append t5 t6 : [25, 25]
    refine seqE rfl rfl (stepApp (c := eInt) (Own.lit (c := eInt) (l := []) (base := H.size) hB5 hg5 (by simp)) rfl Try.underlying25 elem_eInt rfl (by omega) rfl rfl rfl (hA.ext hx5) (by simp; omega) hx5.size ?_)
    intro v H1 hown hgrew
    obtain ⟨A2, c2, rfl, -⟩ := hown.form
    refine seqQ rfl rfl (yAssign (v := .slice _ _ _) rfl rfl) ?_
    refine seqNil ?_
    refine hF5 _ _ ?_; clear hF5
    -- ret
    refine wpRet (fin1 (v := .slice _ _ _) rfl rfl ?_)
    exact ⟨by simpa using hown, hgrew.ext hx5 (by rintro g e; obtain rfl := Option.some.inj e; exact hg5)⟩
set_option maxRecDepth 100000 in
theorem cloneV_c (A : Option Addr) (c : Nat) (l : List PVal) (H : Heap) (hA : Rd eVal H A l) (hl : l.length ≤ 1000000000) :
    CallsH Try.prog 45 [.slice A l.length c] H fun v H' => Own eVal 80 H' H.size v l ∧ Ext H H' := by
  refine callsH_of Try.func45 rfl Try.ntmps45 (Nat.le_of_ble_eq_true rfl) ?_
  refine wpSeq fun F1 hF1 => ?_
  refine wpRegion ?_
  refine seqQ rfl rfl (yAssign (v := .slice _ _ _) rfl rfl) ?_
  refine seqNil ?_
  refine hF1 _ _ ?_; clear hF1
  refine wpSeq fun F2 hF2 => ?_
  refine wpSeq fun F3 hF3 => ?_
  refine wpRegion ?_
  refine seqQ rfl rfl (yMove (v := .slice _ _ _) rfl rfl) ?_
  refine seqQ rfl rfl (yEqlNil rfl Try.underlying24 rfl rfl) ?_
  refine seqNil ?_
  refine hF3 _ _ ?_; clear hF3
  -- if t4
  refine wpCond rfl (fun hn => ?_) (fun hn => ?_)
  · skip
    obtain rfl : A = none := by simpa using hn
    have : l = [] := by
      cases l with
      | nil => rfl
      | cons x l => obtain ⟨p, e, _⟩ := hA (by simp); cases e
    subst this
    refine wpSeq fun F4 hF4 => ?_
    refine wpRegion ?_
    refine seqQ rfl rfl (yAssign (v := .slice _ _ _) rfl rfl) ?_
    refine seqNil ?_
    refine hF4 _ _ ?_; clear hF4
    -- ret
    refine wpRet (fin1 (v := .slice _ _ _) rfl rfl ?_)
    exact ⟨Own.nil _ _, Ext.refl _⟩
  · skip
    refine wpSkip ?_
    refine hF2 _ _ ?_; clear hF2
    refine wpSeq fun F5 hF5 => ?_
    refine wpRegion ?_
    refine seqN rfl rfl (nBuildSliceN (vs := []) rfl Try.underlying24 Try.sizeOf80 Try.zeroValue80 rfl rfl rfl rfl rfl) (fun g5 H5 hx5 hB5 hg5 hl5 => ?_)
    refine seqQ rfl rfl (yMove (v := .slice _ _ _) rfl rfl) ?_
    -- e slot 7: builtin append t5 t6 : [24, 24]
    refine seqE rfl rfl (stepApp (c := eVal) (Own.lit (c := eVal) (l := []) (base := H.size) hB5 hg5 (by simp)) rfl Try.underlying24 elem_eVal rfl (by omega) rfl rfl rfl (hA.ext hx5) (by simp; omega) hx5.size ?_)
    intro v H1 hown hgrew
    obtain ⟨A2, c2, rfl, -⟩ := hown.form
    refine seqQ rfl rfl (yAssign (v := .slice _ _ _) rfl rfl) ?_
    refine seqNil ?_
    refine hF5 _ _ ?_; clear hF5
    -- ret
    refine wpRet (fin1 (v := .slice _ _ _) rfl rfl ?_)
    exact ⟨by simpa using hown, hgrew.ext hx5 (by rintro g e; obtain rfl := Option.some.inj e; exact hg5)⟩
set_option maxRecDepth 100000 in
theorem lt_app {L M : List Nat} {n : Nat} (h : ∀ b ∈ L, b < n) (k : ∀ b ∈ M, b < n) : ∀ b ∈ L ++ M, b < n := fun b hb => by
  rcases List.mem_append.1 hb with hb | hb
  · exact h b hb
  · exact k b hb
set_option maxRecDepth 100000 in
/-- A packet whose lists lie in what the call has made. -/
theorem clone_c (p : Pk) (A B : Option Addr) (ca cb : Nat) (H : Heap) (hA : Rd eVal H A p.vals) (hB : Rd eInt H B p.clk) (h1 : p.vals.length ≤ 1000000000) (h2 : p.clk.length ≤ 1000000000) :
    CallsH Try.prog 29 [.agg (pkC p A ca B cb).toArray] H fun v H' => Ext H H' ∧ ∃ A' ca' B' cb', v = .agg (pkC p A' ca' B' cb').toArray ∧ ∀ M : List Nat, (∀ b ∈ M, b < H.size) → RdM eVal M H' A' p.vals ∧ RdM eInt M H' B' p.clk := by
  refine callsH_of Try.func29 rfl Try.ntmps29 (Nat.le_of_ble_eq_true rfl) ?_
  refine wpSeq fun F1 hF1 => ?_
  refine wpRegion ?_
  refine seqN rfl rfl (nBoxA rfl rfl) (fun g1 H1 hx1 hB1 hg1 hl1 => ?_)
  refine seqN rfl rfl (nAlloc rfl Try.zeroValue27 rfl) (fun g2 H2 hx2 hB2 hg2 hl2 => ?_)
  refine seqNil ?_
  refine hF1 _ _ ?_; clear hF1
  refine wpSeq fun F2 hF2 => ?_
  refine wpRegionD Try_mixed [.q, .q, .e, .q, .q, .e, .q, .e, .q, .e] 7 [0, 1, 3, 0, 8, 31, 31, 127, 255, 511] [] (by kernel_rfl) _ rfl [0, 1, 2, 3, 4, 5, 6] rfl (by simp) ?_
  refine lexQ rfl rfl rfl rfl (fun H hM => (yFieldAddr rfl Try.underlying27 rfl Try.sizeOf24 rfl rfl)) ?_
  refine lexQ rfl rfl rfl rfl (fun H hM => (yLoad rfl Try.underlying24 rfl rfl (hM.ext.cell ((hB1.ext hx2).cell rfl)))) ?_
  -- e slot 5: call F45<slices.Clone[[]farandole/api.Value,farandole/api.Value]> t4
  refine lexX0 rfl rfl rfl rfl rfl (by simp) (fun hM5 => stepCall rfl Try.call45 rfl ?_)
  refine (cloneV_c A ca p.vals _ ((hA.ext hx1).ext hx2) h1).mono ?_
  rintro v H3 ⟨hown3, hx3⟩
  refine ⟨hx3, fun _ => ?_⟩
  obtain ⟨A', ca', rfl, -⟩ := hown3.form
  refine lexQ rfl rfl rfl rfl (fun H hM => (yFieldAddr rfl Try.underlying27 rfl Try.sizeOf25 rfl rfl)) ?_
  refine lexQ rfl rfl rfl rfl (fun H hM => (yLoad rfl Try.underlying25 rfl rfl (hM.ext.cell ((hB1.ext hx2).cell rfl)))) ?_
  -- e slot 8: call F46<slices.Clone[[]int,int]> t7
  refine lexX0 rfl rfl rfl rfl rfl (by simp) (fun hM8 => stepCall rfl Try.call46 rfl ?_)
  refine (cloneI_c B cb p.clk _ (((hB.ext hx1).ext hx2).ext hx3) h2).mono ?_
  rintro v H4 ⟨hown4, hx4⟩
  refine ⟨hx4, fun _ => ?_⟩
  obtain ⟨B', cb', rfl, -⟩ := hown4.form
  refine lexQ rfl rfl rfl rfl (fun H hM => (yFieldAddr rfl Try.underlying27 rfl Try.sizeOf24 rfl rfl)) ?_
  -- tail
  refine lexNil0 rfl (fun hM => ?_)
  have hB1' := ((hB1.ext hx2).ext hx3).ext hx4
  -- e slot None: store T24 t9 t5
  refine seqE0 rfl rfl (stepStore rfl Try.sizeOf24 rfl rfl rfl rfl hB1' (Nat.le_of_ble_eq_true rfl) ?_)
  intro H5 hB5 hK5
  refine seqQ rfl rfl (yFieldAddr rfl Try.underlying27 rfl Try.sizeOf25 rfl rfl) ?_
  -- e slot None: store T25 t10 t8
  refine seqE0 rfl rfl (stepStore rfl Try.sizeOf25 rfl rfl rfl rfl hB5 (Nat.le_of_ble_eq_true rfl) ?_)
  intro H6 hB6 hK6
  have hK := hK5.trans hK6
  have hB2' := (((hB2.ext hx3).ext hx4).keep hK (by simp; omega))
  refine seqNil ?_
  refine hF2 _ _ ?_; clear hF2
  refine wpSeq fun F3 hF3 => ?_
  refine wpRegion ?_
  refine seqQ rfl rfl (yLoadB hB6 rfl Try.underlying27 rfl Try.sizeOf27 rfl) ?_
  -- e slot None: store T27 t2 t11
  refine seqE0 rfl rfl (stepStoreB rfl (by kernel_rfl) rfl rfl rfl hB2' rfl ?_)
  intro H7 hB7 hK7
  refine seqNil ?_
  refine hF3 _ _ ?_; clear hF3
  -- ret
  refine wpRet (finR1 rfl (resC Try.underlying27 rfl (by kernel_rfl) rfl hB7) ?_)
  have e2 := (hx1.trans hx2).trans (hx3.trans hx4)
  have s1 := hx1.size
  have s2 := hx2.size
  have s3 := hx3.size
  refine ⟨(e2.mine hK (by simp; omega)).mine hK7 (by simp; omega), A', ca', B', cb', rfl, fun M hM => ⟨?_, ?_⟩⟩
  · exact ((((hown3.rdM (M := [g1, g2] ++ M) (lt_app (by simp; omega) (fun b hb => by have := hM b hb; omega))).tr (Tr.of_ext hx4 _)).tr (Tr.store hK (by simp))).tr (Tr.store hK7 (by simp))).tr (Tr.sub _ (fun b hb => List.mem_append.2 (.inr hb)))
  · exact (((hown4.rdM (M := [g1, g2] ++ M) (lt_app (by simp; omega) (fun b hb => by have := hM b hb; omega))).tr (Tr.store hK (by simp))).tr (Tr.store hK7 (by simp))).tr (Tr.sub _ (fun b hb => List.mem_append.2 (.inr hb)))

/-- The interval after n transmissions. -/
def ivl (n : Int) : Int := if n < 1 then 0 else if n = 1 then 8 else if n = 2 then 16 else if n = 3 then 32 else 64
set_option maxRecDepth 100000 in
theorem interval_c (n : Int) (H : Heap) (hn : In64 n) : CallsH Try.prog 31 [.int .i64 n] H fun v H' => v = .int .i64 (ivl n) ∧ H' = H := by
  unfold In64 at hn
  refine callsH_of Try.func31 rfl Try.ntmps31 (Nat.le_of_ble_eq_true rfl) ?_
  refine wpSeq fun F1 hF1 => ?_
  refine wpRegion ?_
  refine seqQ rfl rfl (yAssign (v := .int _ _) rfl rfl) ?_
  refine seqNil ?_
  refine hF1 _ _ ?_; clear hF1
  refine wpSeq fun F2 hF2 => ?_
  refine wpSeq fun F3 hF3 => ?_
  refine wpRegion ?_
  refine seqQ rfl rfl (yMove (v := .int _ _) rfl rfl) ?_
  refine seqQ rfl rfl (yLss rfl rfl rfl) ?_
  refine seqNil ?_
  refine hF3 _ _ ?_; clear hF3
  -- if t4
  refine wpIf rfl (fun h1 => ?_) (fun h1 => ?_)
  · skip
    refine wpSeq fun F4 hF4 => ?_
    refine wpRegion ?_
    refine seqQ rfl rfl (yAssign (v := .int _ _) rfl rfl) ?_
    refine seqNil ?_
    refine hF4 _ _ ?_; clear hF4
    -- ret
    refine wpRet (fin1 (v := .int _ _) rfl rfl ?_)
    exact ⟨by simp [ivl, h1], rfl⟩
  · skip
    have hk : IntKind.i64.wrap (8 * 2 ^ (min (n - 1) 3).toNat) = ivl n := by
      rcases (show n = 1 ∨ n = 2 ∨ n = 3 ∨ 4 ≤ n by omega) with rfl | rfl | rfl | h4
      · decide
      · decide
      · decide
      · have : min (n - 1) 3 = 3 := by omega
        rw [this]
        have e : ivl n = 64 := by unfold ivl; rw [if_neg (by omega), if_neg (by omega), if_neg (by omega), if_neg (by omega)]
        rw [e]
        decide
    refine wpSkip ?_
    refine hF2 _ _ ?_; clear hF2
    refine wpSeq fun F5 hF5 => ?_
    refine wpRegion ?_
    refine seqQ rfl rfl (yMove (v := .int _ _) rfl rfl) ?_
    refine seqQ rfl rfl (ySub rfl rfl rfl (by unfold In64; omega)) ?_
    refine seqQ rfl rfl (yMin rfl rfl rfl) ?_
    refine seqQ rfl rfl (yShl rfl rfl rfl (by omega) hk) ?_
    refine seqQ rfl rfl (yAssign (v := .int _ _) rfl rfl) ?_
    refine seqNil ?_
    refine hF5 _ _ ?_; clear hF5
    -- ret
    refine wpRet (fin1 (v := .int _ _) rfl rfl ?_)
    exact ⟨rfl, rfl⟩
set_option maxRecDepth 100000 in
theorem time_c (n : Int) (H : Heap) : CallsH Try.prog 28 [.int .i64 n] H fun v H' => v = .bool (decide (0 ≤ n ∧ n ≤ 1099511627776)) ∧ H' = H := by
  refine callsH_of Try.func28 rfl Try.ntmps28 (Nat.le_of_ble_eq_true rfl) ?_
  refine wpSeq fun F1 hF1 => ?_
  refine wpRegion ?_
  refine seqQ rfl rfl (yAssign (v := .bool _) rfl rfl) ?_
  refine seqNil ?_
  refine hF1 _ _ ?_; clear hF1
  refine wpSeq fun F2 hF2 => ?_
  refine wpRegion ?_
  refine seqQ rfl rfl (yMove (v := .int _ _) rfl rfl) ?_
  refine seqQ rfl rfl (yGeq rfl rfl rfl) ?_
  first | refine seqG rfl rfl rfl rfl (fun h5 => ?_) (fun h5 => ?_) | refine seqGB rfl rfl rfl rfl (fun h5 => ?_) (fun h5 => ?_)
  rotate_left
  · skip
    refine seqU rfl rfl ?_
    refine seqU rfl rfl ?_
    refine seqQ rfl rfl (yPickF (v := .bool _) rfl rfl rfl) ?_
    refine seqQ rfl rfl (yAssign (v := .bool _) rfl rfl) ?_
    refine seqNil ?_
    refine hF2 _ _ ?_; clear hF2
    refine wpRet (fin1 (v := .bool _) rfl rfl ?_)
    exact ⟨by grind, rfl⟩
  refine seqQ rfl rfl (yMove (v := .int _ _) rfl rfl) ?_
  refine seqQ rfl rfl (yLeq rfl rfl rfl) ?_
  refine seqQ rfl rfl (yPickT (v := .bool _) rfl rfl rfl) ?_
  refine seqQ rfl rfl (yAssign (v := .bool _) rfl rfl) ?_
  refine seqNil ?_
  refine hF2 _ _ ?_; clear hF2
  -- ret
  refine wpRet (fin1 (v := .bool _) rfl rfl ?_)
  exact ⟨by grind, rfl⟩

/-- A sender. -/
structure Sd where
  next : Int
  busy : Bool
  pk : Pk
  due : Int
  tries : Int
@[reducible] def sdC (s : Sd) (A : Option Addr) (ca : Nat) (B : Option Addr) (cb : Nat) : List Value := .int .i64 s.next :: .bool s.busy :: (pkC s.pk A ca B cb ++ [.int .i64 s.due, .int .i64 s.tries])
def SdP (s : Sd) : Prop := 1 ≤ s.next ∧ s.next ≤ 1099511627777 ∧ (if s.busy = true then s.pk.kind = 1 ∧ ValidP s.pk ∧ s.pk.seq = s.next - 1 ∧ 0 ≤ s.due ∧ s.due ≤ 2199023255552 ∧ 1 ≤ s.tries ∧ s.tries ≤ 1099511627776 else s.pk = pk0 ∧ s.due = 0 ∧ s.tries = 0)
instance (s : Sd) : Decidable (SdP s) := by unfold SdP; infer_instance
set_option maxRecDepth 100000 in
theorem Blk.sub {H : Heap} {g : Nat} {cs vs : List Value} {T : TypeId} {off : Nat} (hB : Blk H g cs T) (h : (cs.drop off).take vs.length = vs) : ∀ j u, vs[j]? = some u → cellH H (((⟨g, 0, none⟩ : Addr).add off).add j) = some u := fun j u hu => by
  rw [add_of_add]
  refine hB.cell ?_
  have hj := (List.getElem?_eq_some_iff.1 hu).1
  rw [← h, List.getElem?_take, if_pos hj, List.getElem?_drop] at hu
  exact hu
set_option maxRecDepth 100000 in
theorem Blk.cell2 {H : Heap} {g : Nat} {cs : List Value} {T : TypeId} {a b : Nat} {v : Value} (hB : Blk H g cs T) (hv : cs[a + b]? = some v) : cellH H (((⟨g, 0, none⟩ : Addr).add a).add b) = some v := by rw [add_of_add]; exact hB.cell hv
set_option maxRecDepth 100000 in
theorem sdValid_c (s : Sd) (A B : Option Addr) (ca cb : Nat) (H : Heap) (hA : Rd eVal H A s.pk.vals) (hB : Rd eInt H B s.pk.clk) (h1 : s.pk.vals.length ≤ 1000000000) (h2 : s.pk.clk.length ≤ 1000000000) :
    CallsH Try.prog 21 [.agg (sdC s A ca B cb).toArray] H fun v H' => v = .bool (decide (SdP s)) ∧ Ext H H' := by
  refine callsH_of Try.func21 rfl Try.ntmps21 (Nat.le_of_ble_eq_true rfl) ?_
  refine wpSeq fun F1 hF1 => ?_
  refine wpRegion ?_
  refine seqN rfl rfl (nBoxA rfl rfl) (fun g1 H1 hx1 hB1 hg1 hl1 => ?_)
  refine seqQ rfl rfl (yAssign (v := .bool _) rfl rfl) ?_
  refine seqNil ?_
  refine hF1 _ _ ?_; clear hF1
  refine wpSeq fun F2 hF2 => ?_
  refine wpBlock ?_
  refine wpSeq fun F3 hF3 => ?_
  refine wpRegion ?_
  refine seqQ rfl rfl (yFieldAddr rfl Try.underlying29 rfl Try.sizeOf3 rfl rfl) ?_
  refine seqQ rfl rfl (yLoad rfl Try.underlying3 rfl rfl (hB1.cell rfl)) ?_
  refine seqQ rfl rfl (yLss rfl rfl rfl) ?_
  -- guard t7
  refine seqMeet 8 [7, 8, 9, 10, 11] 11 (decide (s.next < 1 ∨ 1099511627777 < s.next)) (fun hm4 => ?_) (fun J4 => ?_)
  · skip
    first | refine seqG rfl rfl rfl rfl (fun h7 => ?_) (fun h7 => ?_) | refine seqGB rfl rfl rfl rfl (fun h7 => ?_) (fun h7 => ?_)
    · skip
      refine seqU rfl rfl ?_
      refine seqU rfl rfl ?_
      refine seqU rfl rfl ?_
      refine seqQ rfl rfl (yPickT (v := .bool _) rfl rfl rfl) ?_
      exact hm4 _ (by repeat (first | (with_reducible exact Agree.refl _ _) | refine Agree.upd ?_ rfl | refine Agree.over ?_ rfl)) (by show Value.bool _ = Value.bool _; congr 1; simp [*])
    · skip
      refine seqQ rfl rfl (yFieldAddr rfl Try.underlying29 rfl Try.sizeOf3 rfl rfl) ?_
      refine seqQ rfl rfl (yLoad rfl Try.underlying3 rfl rfl (hB1.cell rfl)) ?_
      refine seqQ rfl rfl (yGtr rfl rfl rfl) ?_
      refine seqQ rfl rfl (yPickF (v := .bool _) rfl rfl rfl) ?_
      exact hm4 _ (by repeat (first | (with_reducible exact Agree.refl _ _) | refine Agree.upd ?_ rfl | refine Agree.over ?_ rfl)) (by show Value.bool _ = Value.bool _; congr 1; simp [*])
  refine seqQ rfl rfl (yAssign (v := .bool _) rfl rfl) ?_
  refine seqNil ?_
  refine hF3 _ _ ?_; clear hF3
  -- if t3
  refine wpIf rfl (fun hn => ?_) (fun hn => ?_)
  · skip
    refine wpSeq fun F5 hF5 => ?_
    refine wpRegion ?_
    refine seqQ rfl rfl (yAssign (v := .bool _) rfl rfl) ?_
    refine seqNil ?_
    refine hF5 _ _ ?_; clear hF5
    -- ret
    refine wpRet (fin1 (v := .bool _) rfl rfl ?_)
    exact ⟨by grind [SdP], hx1⟩
  · skip
    refine wpSeq fun F6 hF6 => ?_
    refine wpRegion ?_
    refine seqQ rfl rfl (yFieldAddr rfl Try.underlying29 rfl Try.sizeOf4 rfl rfl) ?_
    refine seqQ rfl rfl (yLoad rfl Try.underlying4 rfl rfl (hB1.cell rfl)) ?_
    refine seqQ rfl rfl (yNot rfl rfl) ?_
    refine seqQ rfl rfl (yAssign (v := .bool _) rfl rfl) ?_
    refine seqNil ?_
    refine hF6 _ _ ?_; clear hF6
    -- if t12
    refine wpCond rfl (fun hb => ?_) (fun hb => ?_)
    · skip
      refine wpSeq fun F7 hF7 => ?_
      refine wpRegion ?_
      refine seqQ rfl rfl (yFieldAddr rfl Try.underlying29 rfl Try.sizeOf27 rfl rfl) ?_
      refine seqQ rfl rfl (yLoadC (cs := pkC s.pk A ca B cb) rfl Try.underlying27 rfl Try.sizeOf27 rfl (hB1.sub rfl)) ?_
      refine seqQ rfl rfl (yBuild (pl := [(0, 1), (1, 1), (2, 1), (3, 1), (4, 1), (5, 1), (6, 1), (7, 1), (8, 1)]) (vs := []) rfl Try.underlying27 Try.zeroValue27 rfl (by unfold Places; kernel_rfl) rfl rfl) ?_
      -- e slot 19: call F12<farandole/packet.Equal> t17 t18
      refine seqE rfl rfl (stepCall rfl Try.call12 rfl ?_)
      refine (pkEqual_c s.pk pk0 A B none none ca cb 0 0 _ (hA.ext hx1) (hB.ext hx1) (Rd.nil _ _) (Rd.nil _ _) h1 h2).mono ?_
      rintro v H2 ⟨rfl, hx2⟩
      first | refine seqG rfl rfl rfl rfl (fun h20 => ?_) (fun h20 => ?_) | refine seqGB rfl rfl rfl rfl (fun h20 => ?_) (fun h20 => ?_)
      rotate_left
      · skip
        refine seqU rfl rfl ?_
        refine seqU rfl rfl ?_
        refine seqU rfl rfl ?_
        refine seqQ rfl rfl (yPickF (v := .bool _) rfl rfl rfl) ?_
        refine seqQ rfl rfl (yMove (v := .bool false) rfl rfl) ?_
        refine seqU rfl rfl ?_
        refine seqU rfl rfl ?_
        refine seqU rfl rfl ?_
        refine seqQ rfl rfl (yPickF (v := .bool _) rfl rfl rfl) ?_
        refine seqQ rfl rfl (yAssign (v := .bool _) rfl rfl) ?_
        refine seqNil ?_
        refine hF7 _ _ ?_; clear hF7
        refine wpRet (fin1 (v := .bool _) rfl rfl ?_)
        exact ⟨by grind [SdP], hx1.trans hx2⟩
      refine seqQ rfl rfl (yFieldAddr rfl Try.underlying29 rfl Try.sizeOf3 rfl rfl) ?_
      refine seqQ rfl rfl (yLoad rfl Try.underlying3 rfl rfl ((hB1.ext hx2).cell rfl)) ?_
      refine seqQ rfl rfl (yEql rfl rfl rfl) ?_
      refine seqQ rfl rfl (yPickT (v := .bool _) rfl rfl rfl) ?_
      first | refine seqG rfl rfl rfl rfl (fun h25 => ?_) (fun h25 => ?_) | refine seqGB rfl rfl rfl rfl (fun h25 => ?_) (fun h25 => ?_)
      rotate_left
      · skip
        refine seqU rfl rfl ?_
        refine seqU rfl rfl ?_
        refine seqU rfl rfl ?_
        refine seqQ rfl rfl (yPickF (v := .bool _) rfl rfl rfl) ?_
        refine seqQ rfl rfl (yAssign (v := .bool _) rfl rfl) ?_
        refine seqNil ?_
        refine hF7 _ _ ?_; clear hF7
        refine wpRet (fin1 (v := .bool _) rfl rfl ?_)
        exact ⟨by grind [SdP], hx1.trans hx2⟩
      refine seqQ rfl rfl (yFieldAddr rfl Try.underlying29 rfl Try.sizeOf3 rfl rfl) ?_
      refine seqQ rfl rfl (yLoad rfl Try.underlying3 rfl rfl ((hB1.ext hx2).cell rfl)) ?_
      refine seqQ rfl rfl (yEql rfl rfl rfl) ?_
      refine seqQ rfl rfl (yPickT (v := .bool _) rfl rfl rfl) ?_
      refine seqQ rfl rfl (yAssign (v := .bool _) rfl rfl) ?_
      refine seqNil ?_
      refine hF7 _ _ ?_; clear hF7
      -- ret
      refine wpRet (fin1 (v := .bool _) rfl rfl ?_)
      exact ⟨by grind [SdP], hx1.trans hx2⟩
    · skip
      refine wpSkip ?_
      refine hF2 _ _ ?_; clear hF2
      refine wpSeq fun F8 hF8 => ?_
      refine wpRegion ?_
      refine seqQ rfl rfl (yFieldAddr rfl Try.underlying29 rfl Try.sizeOf27 rfl rfl) ?_
      refine seqQ rfl rfl (yFieldAddr rfl Try.underlying27 rfl Try.sizeOf3 rfl rfl) ?_
      refine seqQ rfl rfl (yLoad rfl Try.underlying3 rfl rfl (hB1.cell2 rfl)) ?_
      refine seqQ rfl rfl (yEql rfl rfl rfl) ?_
      first | refine seqG rfl rfl rfl rfl (fun h34 => ?_) (fun h34 => ?_) | refine seqGB rfl rfl rfl rfl (fun h34 => ?_) (fun h34 => ?_)
      rotate_left
      · skip
        refine seqU rfl rfl ?_
        refine seqU rfl rfl ?_
        refine seqU rfl rfl ?_
        refine seqQ rfl rfl (yPickF (v := .bool _) rfl rfl rfl) ?_
        refine seqQ rfl rfl (yMove (v := .bool false) rfl rfl) ?_
        refine seqU rfl rfl ?_
        refine seqU rfl rfl ?_
        refine seqU rfl rfl ?_
        refine seqU rfl rfl ?_
        refine seqU rfl rfl ?_
        refine seqU rfl rfl ?_
        refine seqU rfl rfl ?_
        refine seqQ rfl rfl (yPickF (v := .bool _) rfl rfl rfl) ?_
        refine seqQ rfl rfl (yMove (v := .bool false) rfl rfl) ?_
        refine seqU rfl rfl ?_
        refine seqU rfl rfl ?_
        refine seqU rfl rfl ?_
        refine seqQ rfl rfl (yPickF (v := .bool _) rfl rfl rfl) ?_
        refine seqQ rfl rfl (yMove (v := .bool false) rfl rfl) ?_
        refine seqU rfl rfl ?_
        refine seqU rfl rfl ?_
        refine seqU rfl rfl ?_
        refine seqQ rfl rfl (yPickF (v := .bool _) rfl rfl rfl) ?_
        refine seqQ rfl rfl (yMove (v := .bool false) rfl rfl) ?_
        refine seqU rfl rfl ?_
        refine seqU rfl rfl ?_
        refine seqU rfl rfl ?_
        refine seqQ rfl rfl (yPickF (v := .bool _) rfl rfl rfl) ?_
        refine seqQ rfl rfl (yMove (v := .bool false) rfl rfl) ?_
        refine seqU rfl rfl ?_
        refine seqU rfl rfl ?_
        refine seqU rfl rfl ?_
        refine seqQ rfl rfl (yPickF (v := .bool _) rfl rfl rfl) ?_
        refine seqQ rfl rfl (yAssign (v := .bool _) rfl rfl) ?_
        refine seqNil ?_
        refine hF8 _ _ ?_; clear hF8
        refine wpRet (fin1 (v := .bool _) rfl rfl ?_)
        exact ⟨by grind [SdP], hx1⟩
      refine seqQ rfl rfl (yFieldAddr rfl Try.underlying29 rfl Try.sizeOf27 rfl rfl) ?_
      refine seqQ rfl rfl (yLoadC (cs := pkC s.pk A ca B cb) rfl Try.underlying27 rfl Try.sizeOf27 rfl (hB1.sub rfl)) ?_
      -- e slot 37: call F30<farandole/packet.Valid> t36
      refine seqE rfl rfl (stepCall rfl Try.call30 rfl ?_)
      refine (pkValid_c s.pk A B ca cb _ (hA.ext hx1) (hB.ext hx1)).mono ?_
      rintro v H2 ⟨rfl, hx2⟩
      refine seqQ rfl rfl (yPickT (v := .bool _) rfl rfl rfl) ?_
      first | refine seqG rfl rfl rfl rfl (fun h39 => ?_) (fun h39 => ?_) | refine seqGB rfl rfl rfl rfl (fun h39 => ?_) (fun h39 => ?_)
      rotate_left
      · skip
        refine seqU rfl rfl ?_
        refine seqU rfl rfl ?_
        refine seqU rfl rfl ?_
        refine seqU rfl rfl ?_
        refine seqU rfl rfl ?_
        refine seqU rfl rfl ?_
        refine seqU rfl rfl ?_
        refine seqQ rfl rfl (yPickF (v := .bool _) rfl rfl rfl) ?_
        refine seqQ rfl rfl (yMove (v := .bool false) rfl rfl) ?_
        refine seqU rfl rfl ?_
        refine seqU rfl rfl ?_
        refine seqU rfl rfl ?_
        refine seqQ rfl rfl (yPickF (v := .bool _) rfl rfl rfl) ?_
        refine seqQ rfl rfl (yMove (v := .bool false) rfl rfl) ?_
        refine seqU rfl rfl ?_
        refine seqU rfl rfl ?_
        refine seqU rfl rfl ?_
        refine seqQ rfl rfl (yPickF (v := .bool _) rfl rfl rfl) ?_
        refine seqQ rfl rfl (yMove (v := .bool false) rfl rfl) ?_
        refine seqU rfl rfl ?_
        refine seqU rfl rfl ?_
        refine seqU rfl rfl ?_
        refine seqQ rfl rfl (yPickF (v := .bool _) rfl rfl rfl) ?_
        refine seqQ rfl rfl (yMove (v := .bool false) rfl rfl) ?_
        refine seqU rfl rfl ?_
        refine seqU rfl rfl ?_
        refine seqU rfl rfl ?_
        refine seqQ rfl rfl (yPickF (v := .bool _) rfl rfl rfl) ?_
        refine seqQ rfl rfl (yAssign (v := .bool _) rfl rfl) ?_
        refine seqNil ?_
        refine hF8 _ _ ?_; clear hF8
        refine wpRet (fin1 (v := .bool _) rfl rfl ?_)
        exact ⟨by grind [SdP], hx1.trans hx2⟩
      refine seqQ rfl rfl (yFieldAddr rfl Try.underlying29 rfl Try.sizeOf27 rfl rfl) ?_
      refine seqQ rfl rfl (yFieldAddr rfl Try.underlying27 rfl Try.sizeOf3 rfl rfl) ?_
      refine seqQ rfl rfl (yLoad rfl Try.underlying3 rfl rfl ((hB1.ext hx2).cell2 rfl)) ?_
      refine seqQ rfl rfl (yFieldAddr rfl Try.underlying29 rfl Try.sizeOf3 rfl rfl) ?_
      refine seqQ rfl rfl (yLoad rfl Try.underlying3 rfl rfl ((hB1.ext hx2).cell rfl)) ?_
      refine seqQ rfl rfl (ySub rfl rfl rfl (by unfold In64; omega)) ?_
      refine seqQ rfl rfl (yEql rfl rfl rfl) ?_
      refine seqQ rfl rfl (yPickT (v := .bool _) rfl rfl rfl) ?_
      first | refine seqG rfl rfl rfl rfl (fun h48 => ?_) (fun h48 => ?_) | refine seqGB rfl rfl rfl rfl (fun h48 => ?_) (fun h48 => ?_)
      rotate_left
      · skip
        refine seqU rfl rfl ?_
        refine seqU rfl rfl ?_
        refine seqU rfl rfl ?_
        refine seqQ rfl rfl (yPickF (v := .bool _) rfl rfl rfl) ?_
        refine seqQ rfl rfl (yMove (v := .bool false) rfl rfl) ?_
        refine seqU rfl rfl ?_
        refine seqU rfl rfl ?_
        refine seqU rfl rfl ?_
        refine seqQ rfl rfl (yPickF (v := .bool _) rfl rfl rfl) ?_
        refine seqQ rfl rfl (yMove (v := .bool false) rfl rfl) ?_
        refine seqU rfl rfl ?_
        refine seqU rfl rfl ?_
        refine seqU rfl rfl ?_
        refine seqQ rfl rfl (yPickF (v := .bool _) rfl rfl rfl) ?_
        refine seqQ rfl rfl (yMove (v := .bool false) rfl rfl) ?_
        refine seqU rfl rfl ?_
        refine seqU rfl rfl ?_
        refine seqU rfl rfl ?_
        refine seqQ rfl rfl (yPickF (v := .bool _) rfl rfl rfl) ?_
        refine seqQ rfl rfl (yAssign (v := .bool _) rfl rfl) ?_
        refine seqNil ?_
        refine hF8 _ _ ?_; clear hF8
        refine wpRet (fin1 (v := .bool _) rfl rfl ?_)
        exact ⟨by grind [SdP], hx1.trans hx2⟩
      refine seqQ rfl rfl (yFieldAddr rfl Try.underlying29 rfl Try.sizeOf3 rfl rfl) ?_
      refine seqQ rfl rfl (yLoad rfl Try.underlying3 rfl rfl ((hB1.ext hx2).cell rfl)) ?_
      refine seqQ rfl rfl (yGeq rfl rfl rfl) ?_
      refine seqQ rfl rfl (yPickT (v := .bool _) rfl rfl rfl) ?_
      first | refine seqG rfl rfl rfl rfl (fun h53 => ?_) (fun h53 => ?_) | refine seqGB rfl rfl rfl rfl (fun h53 => ?_) (fun h53 => ?_)
      rotate_left
      · skip
        refine seqU rfl rfl ?_
        refine seqU rfl rfl ?_
        refine seqU rfl rfl ?_
        refine seqQ rfl rfl (yPickF (v := .bool _) rfl rfl rfl) ?_
        refine seqQ rfl rfl (yMove (v := .bool false) rfl rfl) ?_
        refine seqU rfl rfl ?_
        refine seqU rfl rfl ?_
        refine seqU rfl rfl ?_
        refine seqQ rfl rfl (yPickF (v := .bool _) rfl rfl rfl) ?_
        refine seqQ rfl rfl (yMove (v := .bool false) rfl rfl) ?_
        refine seqU rfl rfl ?_
        refine seqU rfl rfl ?_
        refine seqU rfl rfl ?_
        refine seqQ rfl rfl (yPickF (v := .bool _) rfl rfl rfl) ?_
        refine seqQ rfl rfl (yAssign (v := .bool _) rfl rfl) ?_
        refine seqNil ?_
        refine hF8 _ _ ?_; clear hF8
        refine wpRet (fin1 (v := .bool _) rfl rfl ?_)
        exact ⟨by grind [SdP], hx1.trans hx2⟩
      refine seqQ rfl rfl (yFieldAddr rfl Try.underlying29 rfl Try.sizeOf3 rfl rfl) ?_
      refine seqQ rfl rfl (yLoad rfl Try.underlying3 rfl rfl ((hB1.ext hx2).cell rfl)) ?_
      refine seqQ rfl rfl (yLeq rfl rfl rfl) ?_
      refine seqQ rfl rfl (yPickT (v := .bool _) rfl rfl rfl) ?_
      first | refine seqG rfl rfl rfl rfl (fun h58 => ?_) (fun h58 => ?_) | refine seqGB rfl rfl rfl rfl (fun h58 => ?_) (fun h58 => ?_)
      rotate_left
      · skip
        refine seqU rfl rfl ?_
        refine seqU rfl rfl ?_
        refine seqU rfl rfl ?_
        refine seqQ rfl rfl (yPickF (v := .bool _) rfl rfl rfl) ?_
        refine seqQ rfl rfl (yMove (v := .bool false) rfl rfl) ?_
        refine seqU rfl rfl ?_
        refine seqU rfl rfl ?_
        refine seqU rfl rfl ?_
        refine seqQ rfl rfl (yPickF (v := .bool _) rfl rfl rfl) ?_
        refine seqQ rfl rfl (yAssign (v := .bool _) rfl rfl) ?_
        refine seqNil ?_
        refine hF8 _ _ ?_; clear hF8
        refine wpRet (fin1 (v := .bool _) rfl rfl ?_)
        exact ⟨by grind [SdP], hx1.trans hx2⟩
      refine seqQ rfl rfl (yFieldAddr rfl Try.underlying29 rfl Try.sizeOf3 rfl rfl) ?_
      refine seqQ rfl rfl (yLoad rfl Try.underlying3 rfl rfl ((hB1.ext hx2).cell rfl)) ?_
      refine seqQ rfl rfl (yGeq rfl rfl rfl) ?_
      refine seqQ rfl rfl (yPickT (v := .bool _) rfl rfl rfl) ?_
      first | refine seqG rfl rfl rfl rfl (fun h63 => ?_) (fun h63 => ?_) | refine seqGB rfl rfl rfl rfl (fun h63 => ?_) (fun h63 => ?_)
      rotate_left
      · skip
        refine seqU rfl rfl ?_
        refine seqU rfl rfl ?_
        refine seqU rfl rfl ?_
        refine seqQ rfl rfl (yPickF (v := .bool _) rfl rfl rfl) ?_
        refine seqQ rfl rfl (yAssign (v := .bool _) rfl rfl) ?_
        refine seqNil ?_
        refine hF8 _ _ ?_; clear hF8
        refine wpRet (fin1 (v := .bool _) rfl rfl ?_)
        exact ⟨by grind [SdP], hx1.trans hx2⟩
      refine seqQ rfl rfl (yFieldAddr rfl Try.underlying29 rfl Try.sizeOf3 rfl rfl) ?_
      refine seqQ rfl rfl (yLoad rfl Try.underlying3 rfl rfl ((hB1.ext hx2).cell rfl)) ?_
      refine seqQ rfl rfl (yLeq rfl rfl rfl) ?_
      refine seqQ rfl rfl (yPickT (v := .bool _) rfl rfl rfl) ?_
      refine seqQ rfl rfl (yAssign (v := .bool _) rfl rfl) ?_
      refine seqNil ?_
      refine hF8 _ _ ?_; clear hF8
      -- ret
      refine wpRet (fin1 (v := .bool _) rfl rfl ?_)
      exact ⟨by grind [SdP], hx1.trans hx2⟩
end Go.Proofs.Ytcfnmklbkhibgaa
