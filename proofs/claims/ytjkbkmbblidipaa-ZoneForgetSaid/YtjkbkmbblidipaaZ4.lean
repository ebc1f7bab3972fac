/- Zones: clone, the full zone, nothing, Add. -/
import Derived.Test.YtjkbkmbblidipaaZ3
import Derived.Test.YtjkbkmbblidipaaLK
namespace Go.Proofs.Ytjkbkmbblidipaa
open Go.RowKit

/-- A zone that a call hands out. -/
def ZO (H : Heap) (base : Nat) (v : Value) (z : Zn) : Prop := ∃ A ca, v = .agg (znC z A ca).toArray ∧ Own eInt 3 H base (.slice A z.b.length ca) z.b
set_option maxRecDepth 100000 in
theorem ZO.zero (H : Heap) (base : Nat) : ZO H base (.agg (znC zn0 none 0).toArray) zn0 := ⟨none, 0, rfl, Own.nil _ _⟩
set_option maxRecDepth 100000 in
theorem ZO.of {H : Heap} {base m ca : Nat} {A : Option Addr} {N : Int} {L : List Int} (h : Own eInt 3 H base (.slice A m ca) L) : ZO H base (.agg [.int .i64 N, .slice A m ca].toArray) ⟨N, L⟩ := by
  obtain ⟨rfl, _⟩ := Own.rd h
  exact ⟨A, ca, rfl, h⟩
set_option maxRecDepth 100000 in
theorem cloneI_c (A : Option Addr) (c : Nat) (l : List Int) (H : Heap) (hA : Rd eInt H A l) (hl : l.length ≤ 1000000000) :
    CallsH Try.prog 41 [.slice A l.length c] H fun v H' => Own eInt 3 H' H.size v l ∧ Ext H H' := by
  refine callsH_of Try.func41 rfl Try.ntmps41 (Nat.le_of_ble_eq_true rfl) ?_
  refine wpSeq fun F1 hF1 => ?_
  refine wpRegion ?_
  refine seqQ rfl rfl (yAssign (v := .slice _ _ _) rfl rfl) ?_
  refine seqNil ?_
  refine hF1 _ _ ?_; clear hF1
  refine wpSeq fun F2 hF2 => ?_
  refine wpSeq fun F3 hF3 => ?_
  refine wpRegion ?_
  refine seqQ rfl rfl (yMove (v := .slice _ _ _) rfl rfl) ?_
  refine seqQ rfl rfl (yEqlNil rfl Try.underlying22 rfl rfl) ?_
  refine seqNil ?_
  refine hF3 _ _ ?_; clear hF3
  -- if t4
  refine wpCond rfl (fun hn => ?_) (fun hn => ?_)
  · skip
    obtain rfl : A = none := by simpa using hn
    have : l = [] := by
      cases l with
      | nil => rfl
      | cons x l => obtain ⟨p, e, _⟩ := hA (by simp); cases e
    subst this
    refine wpSeq fun F4 hF4 => ?_
    refine wpRegion ?_
    refine seqQ rfl rfl (yAssign (v := .slice _ _ _) rfl rfl) ?_
    refine seqNil ?_
    refine hF4 _ _ ?_; clear hF4
    -- ret
    refine wpRet (fin1 (v := .slice _ _ _) rfl rfl ?_)
    exact ⟨Own.nil _ _, Ext.refl _⟩
  · skip
    refine wpSkip ?_
    refine hF2 _ _ ?_; clear hF2
    refine wpSeq fun F5 hF5 => ?_
    refine wpRegion ?_
    refine seqN rfl rfl (nBuildSlice (vs := []) rfl Try.underlying22 Try.sizeOf3 Try.zeroValue3 rfl rfl rfl rfl) (fun g5 H5 hx5 hB5 hg5 hl5 => ?_)
    refine seqQ rfl rfl (yMove (v := .slice _ _ _) rfl rfl) ?_
    -- e slot 7: builtin append t5 t6 : [22, 22]
    refine seqE rfl rfl (stepApp (c := eInt) (Own.lit (c := eInt) (l := []) (base := H.size) hB5 hg5 (by simp)) rfl Try.underlying22 elem_eInt rfl (by omega) rfl rfl rfl (hA.ext hx5) (by simp; omega) hx5.size ?_)
    intro v H1 hown hgrew
    obtain ⟨A2, c2, rfl, -⟩ := hown.form
    refine seqQ rfl rfl (yAssign (v := .slice _ _ _) rfl rfl) ?_
    refine seqNil ?_
    refine hF5 _ _ ?_; clear hF5
    -- ret
    refine wpRet (fin1 (v := .slice _ _ _) rfl rfl ?_)
    exact ⟨by simpa using hown, hgrew.ext hx5 (by rintro g e; obtain rfl := Option.some.inj e; exact hg5)⟩

/-- A zone in work: its matrix in a slice of the call's own, its variable g5; g2 the result. -/
structure ZSt (H0 : Heap) (g2 g5 : Nat) (T : TypeId) (N : Int) (p : Addr) (m ca : Nat) (L : List Int) (H : Heap) : Prop where
  ext : Ext H0 H
  own : Own eInt 3 H H0.size (.slice (some p) m ca) L
  b2 : Blk H g2 (znC zn0 none 0) T
  b5 : Blk H g5 [.int .i64 N, .slice (some p) m ca] T
  n2 : g2 ≠ p.block
  n5 : g5 ≠ p.block
  pb : H0.size ≤ p.block
  q2 : H0.size ≤ g2
section
variable {H0 H H' : Heap} {g2 g5 : Nat} {T : TypeId} {N : Int} {p : Addr} {m ca : Nat} {L L' : List Int}
set_option maxRecDepth 100000 in
theorem ZSt.store (h : ZSt H0 g2 g5 T N p m ca L H) (ho : Own eInt 3 H' H0.size (.slice (some p) m ca) L') (hk : Keep [p.block] H H') : ZSt H0 g2 g5 T N p m ca L' H' :=
  ⟨h.ext.mine hk (by simpa using h.pb), ho, h.b2.keep hk (by simpa using h.n2), h.b5.keep hk (by simpa using h.n5), h.n2, h.n5, h.pb, h.q2⟩
set_option maxRecDepth 100000 in
theorem ZSt.at_ (h : ZSt H0 g2 g5 T N p m ca L H) {n a b : Nat} (hl : L.length = n * n) (ha : a < n) (hb : b < n) : cellH H (p.add (a * n + b)) = some (.int .i64 (mt n L a b)) := by
  obtain ⟨q, e, hq⟩ := rdM (Own.rd h.own).2 hl ha hb
  obtain rfl := Option.some.inj e
  exact hq
set_option maxRecDepth 100000 in
theorem ZSt.done (h : ZSt H0 g2 g5 T N p m ca L H) (hk : Keep [g2] H H') : Ext H0 H' ∧ Own eInt 3 H' H0.size (.slice (some p) m ca) L :=
  ⟨h.ext.mine hk (by simpa using h.q2), h.own.keep hk (by intro b e; obtain rfl := Option.some.inj e; have := h.n2; simp; exact fun h => this h.symm)⟩
set_option maxRecDepth 100000 in
theorem ZSt.m_eq (h : ZSt H0 g2 g5 T N p m ca L H) : m = L.length := (Own.rd h.own).1
end

set_option maxRecDepth 100000 in
theorem zone_c (m : Nat) (H : Heap) (h1 : 1 ≤ m) (h2 : m ≤ 25) : CallsH Try.prog 47 [.int .i64 ((m : Int) - 1)] H fun v H' => Ext H H' ∧ ZO H' H.size v ⟨(m : Int) - 1, fulL m⟩ := by
  have hmm := mul25 h2 h2
  refine callsH_of Try.func47 rfl Try.ntmps47 (Nat.le_of_ble_eq_true rfl) ?_
  refine wpSeq fun F1 hF1 => ?_
  refine wpRegion ?_
  refine seqN rfl rfl (nAlloc rfl Try.zeroValue27 rfl) (fun g2 H2 hx2 hB2 hg2 hl2 => ?_)
  refine seqNil ?_
  refine hF1 _ _ ?_; clear hF1
  refine wpSeq fun F2 hF2 => ?_
  refine wpRegion ?_
  refine seqQ rfl rfl (yMove (v := .int _ _) rfl rfl) ?_
  refine seqQ rfl rfl (yMove (v := .int _ _) rfl rfl) ?_
  refine seqQ rfl rfl (yAddE rfl rfl rfl (by unfold In64; omega) (Int.sub_add_cancel _ _)) ?_
  refine seqQ rfl rfl (yMove (v := .int _ _) rfl rfl) ?_
  refine seqQ rfl rfl (yAddE rfl rfl rfl (by unfold In64; omega) (Int.sub_add_cancel _ _)) ?_
  refine seqQ rfl rfl (yMul rfl rfl rfl (mul_in h2 h2)) ?_
  -- e slot 12: makeSlice T22 t11 t11
  refine seqE rfl rfl (stepMake (c := eInt) (z := 0) rfl Try.underlying22 elem_eInt rfl (by omega) rfl rfl (Int.natCast_mul m m).symm (by omega) ?_)
  intro g H1 hx1 hg1 hown1
  refine seqQ rfl rfl (yBuild (pl := [(0, 1), (1, 1)]) (vs := [(0, .int _ _), (1, .slice _ _ _)]) rfl Try.underlying27 Try.zeroValue27 rfl (by unfold Places; kernel_rfl) rfl rfl) ?_
  refine seqN rfl rfl (nAlloc rfl Try.zeroValue27 rfl) (fun g3 H3 hx3 hB3 hg3 hl3 => ?_)
  -- e slot None: store T27 t3 t13
  refine seqE0 rfl rfl (stepStoreB rfl (by kernel_rfl) rfl rfl rfl hB3 rfl ?_)
  intro H4 hB4 hK4
  have e3 := (hx2.trans hx1).trans hx3
  have s2 := hx2.size
  have s1 := hx1.size
  have l2 := hB2.lt
  have lg := hown1.lt g rfl
  have st : ZSt H g2 g3 27 ((m : Int) - 1) ⟨g, 0, none⟩ (m * m) (m * m) (List.replicate (m * m) 0) H4 :=
    ⟨e3.mine hK4 (by simp; omega), ((hown1.mono (by omega)).ext hx3).keep hK4 (by intro b e; obtain rfl := Option.some.inj e; simp; omega), ((hB2.ext hx1).ext hx3).keep hK4 (by simp; omega), hB4, by show g2 ≠ g; omega, by show g3 ≠ g; omega, by show H.size ≤ g; omega, by omega⟩
  have hlen : ∀ i, (sI m (fun i j _ => ful i j) i (List.replicate (m * m) 0)).length = m * m := fun i => by rw [sI_len]; simp
  clear hx2 hx1 hx3 hB2 hB3 hB4 hown1 hK4 s1 s2 l2 lg e3
  refine seqNil ?_
  refine hF2 _ _ ?_; clear hF2
  refine wpSeq fun F3 hF3 => ?_
  refine wpSeq fun F4 hF4 => ?_
  refine wpRegion ?_
  refine seqQ rfl rfl (yMove (v := .int _ _) rfl rfl) ?_
  refine seqQ rfl rfl (yAddE rfl rfl rfl (by unfold In64; omega) (Int.sub_add_cancel _ _)) ?_
  refine seqQ rfl rfl (yMove (v := .int _ _) rfl rfl) ?_
  refine seqNil ?_
  refine hF4 _ _ ?_; clear hF4
  -- loop
  refine wpBlock ?_
  refine wpLoopS [4, 5, 16, 17, 18, 19, 20, 21, 22, 23, 24, 25, 26, 27, 28, 29, 30, 31, 32, 33, 34, 35, 36, 37] (fun i : Nat => [(16, .int .i64 i)]) (fun i H' => i ≤ m ∧ ZSt H g2 g3 27 ((m : Int) - 1) ⟨g, 0, none⟩ (m * m) (m * m) (sI m (fun i j _ => ful i j) i (List.replicate (m * m) 0)) H') (fun i => m - i) 0 ⟨rfl, trivial⟩ ⟨Nat.zero_le _, st⟩ ?_
  rintro i J Hi ⟨hi, st1⟩
  clear st
  refine wpSeq fun F5 hF5 => ?_
  refine wpRegion ?_
  refine seqQ rfl rfl (yLss rfl rfl rfl) ?_
  refine seqNil ?_
  refine hF5 _ _ ?_; clear hF5
  refine wpSeq fun F6 hF6 => ?_
  -- if t17
  refine wpIf rfl (fun hlt => ?_) (fun hlt => ?_)
  · skip
    have hi : i < m := by omega
    refine wpSkip ?_
    refine hF6 _ _ ?_; clear hF6
    refine wpSeq fun F7 hF7 => ?_
    refine wpBlock ?_
    refine wpSeq fun F8 hF8 => ?_
    refine wpRegion ?_
    refine seqQ rfl rfl (yMove (v := .int _ _) rfl rfl) ?_
    refine seqQ rfl rfl (yAssign (v := .int _ _) rfl rfl) ?_
    refine seqNil ?_
    refine hF8 _ _ ?_; clear hF8
    refine wpSeq fun F9 hF9 => ?_
    refine wpRegion ?_
    refine seqQ rfl rfl (yMove (v := .int _ _) rfl rfl) ?_
    refine seqQ rfl rfl (yAddE rfl rfl rfl (by unfold In64; omega) (Int.sub_add_cancel _ _)) ?_
    refine seqQ rfl rfl (yMove (v := .int _ _) rfl rfl) ?_
    refine seqNil ?_
    refine hF9 _ _ ?_; clear hF9
    -- loop
    refine wpBlock ?_
    refine wpLoopS [5, 21, 22, 23, 24, 25, 26, 27, 28, 29, 30, 31, 32, 33, 34, 35, 36] (fun j : Nat => [(21, .int .i64 j)]) (fun j H' => j ≤ m ∧ ZSt H g2 g3 27 ((m : Int) - 1) ⟨g, 0, none⟩ (m * m) (m * m) (sJ m (fun i j _ => ful i j) i j (sI m (fun i j _ => ful i j) i (List.replicate (m * m) 0))) H') (fun j => m - j) 0 ⟨rfl, trivial⟩ ⟨Nat.zero_le _, st1⟩ ?_
    rintro j K Hj ⟨hj, st2⟩
    clear st1
    refine wpSeq fun F10 hF10 => ?_
    refine wpRegion ?_
    refine seqQ rfl rfl (yLss rfl rfl rfl) ?_
    refine seqNil ?_
    refine hF10 _ _ ?_; clear hF10
    refine wpSeq fun F11 hF11 => ?_
    -- if t22
    refine wpIf rfl (fun hlt2 => ?_) (fun hlt2 => ?_)
    · skip
      have hj : j < m := by omega
      have hl2 : (sJ m (fun i j _ => ful i j) i j (sI m (fun i j _ => ful i j) i (List.replicate (m * m) 0))).length = m * m := by rw [sJ_len, hlen]
      have hix := idx_lt hi hj
      refine wpSkip ?_
      refine hF11 _ _ ?_; clear hF11
      refine wpSeq fun F12 hF12 => ?_
      refine wpBlock ?_
      refine wpSeq fun F13 hF13 => ?_
      refine wpRegion ?_
      refine seqQ rfl rfl (yMove (v := .int _ _) rfl rfl) ?_
      refine seqQ rfl rfl (yAssign (v := .int _ _) rfl rfl) ?_
      refine seqNil ?_
      refine hF13 _ _ ?_; clear hF13
      refine wpRegionD Try_mixed [.q, .q, .q, .q, .q, .q, .q, .q, .q, .q, .e, .q, .e] 11 [0, 1, 0, 0, 8, 28, 0, 124, 0, 0, 768, 2047, 4095] [] (by kernel_rfl) _ rfl [0, 1, 2, 3, 4, 5, 6, 7, 8, 9, 10] rfl (by simp) ?_
      refine lexQ rfl rfl rfl rfl (fun H hM => (yFieldAddr rfl Try.underlying27 rfl Try.sizeOf22 rfl rfl)) ?_
      refine lexQ rfl rfl rfl rfl (fun H hM => (yLoad rfl Try.underlying22 rfl rfl (hM.ext.cell (st2.b5.cell rfl)))) ?_
      refine lexQ rfl rfl rfl rfl (fun H hM => (yMove (v := .int _ _) rfl rfl)) ?_
      refine lexQ rfl rfl rfl rfl (fun H hM => (yMove (v := .int _ _) rfl rfl)) ?_
      refine lexQ rfl rfl rfl rfl (fun H hM => (yAddE rfl rfl rfl (by unfold In64; omega) (Int.sub_add_cancel _ _))) ?_
      refine lexQ rfl rfl rfl rfl (fun H hM => (yMul rfl rfl rfl (mul_in (by omega) h2))) ?_
      refine lexQ rfl rfl rfl rfl (fun H hM => (yMove (v := .int _ _) rfl rfl)) ?_
      refine lexQ rfl rfl rfl rfl (fun H hM => (yAdd rfl rfl rfl (add_in (by omega) h2 (by omega)))) ?_
      refine lexQ rfl rfl rfl rfl (fun H hM => (yMove (v := .int _ _) rfl rfl)) ?_
      refine lexQ rfl rfl rfl rfl (fun H hM => (yMove (v := .int _ _) rfl rfl)) ?_
      -- e slot 34: call F42<farandole/zone.full> t32 t33
      refine lexX0 rfl rfl rfl rfl rfl (by simp) (fun hM34 => stepCall rfl Try.call42 rfl ?_)
      refine (full_c i j _).mono ?_
      rintro v _ ⟨rfl, e⟩
      obtain rfl := e.symm
      clear e
      refine ⟨Ext.refl _, fun _ => ?_⟩
      -- tail
      refine lexNil0 rfl (fun hM => ?_)
      refine seqQ rfl rfl (yIdx1 rfl Try.underlying22 Try.sizeOf3 rfl rfl idx_e hix) ?_
      -- e slot None: store T3 t35 t34
      refine seqE0 rfl rfl (stepStoreOwn st2.own rfl Try.sizeOf3 rfl rfl rfl rfl (by rw [hl2]; exact hix) ?_)
      intro H5 hown5 hK5
      refine seqNil ?_
      refine hF12 _ _ ?_; clear hF12
      refine wpRegion ?_
      refine seqQ rfl rfl (yAdd rfl rfl rfl (by unfold In64; omega)) ?_
      refine seqQ rfl rfl (yMove (v := .int _ _) rfl rfl) ?_
      refine seqNil ?_
      -- end loop
      exact loopEnd (j + 1) (by repeat (first | (with_reducible exact Agree.refl _ _) | refine Agree.upd ?_ rfl | refine Agree.over ?_ rfl)) (by omega) ⟨rfl, trivial⟩ ⟨hj, st2.store hown5 hK5⟩
    · skip
      obtain rfl : j = m := by omega
      refine wpExit ?_
      refine hF7 _ _ ?_; clear hF7
      refine wpRegion ?_
      refine seqQ rfl rfl (yAdd rfl rfl rfl (by unfold In64; omega)) ?_
      refine seqQ rfl rfl (yMove (v := .int _ _) rfl rfl) ?_
      refine seqNil ?_
      -- end loop
      exact loopEnd (i + 1) (by repeat (first | (with_reducible exact Agree.refl _ _) | refine Agree.upd ?_ rfl | refine Agree.over ?_ rfl)) (by omega) ⟨rfl, trivial⟩ ⟨hi, st2⟩
  · skip
    obtain rfl : i = m := by omega
    refine wpExit ?_
    refine hF3 _ _ ?_; clear hF3
    refine wpSeq fun F14 hF14 => ?_
    refine wpRegion ?_
    refine seqQ rfl rfl (yLoadB st1.b5 rfl Try.underlying27 rfl Try.sizeOf27 rfl) ?_
    -- e slot None: store T27 t2 t38
    refine seqE0 rfl rfl (stepStoreB rfl (by kernel_rfl) rfl rfl rfl st1.b2 rfl ?_)
    intro H5 hB5 hK5
    refine seqNil ?_
    refine hF14 _ _ ?_; clear hF14
    -- ret
    refine wpRet (finR1 rfl (resC Try.underlying27 rfl (by kernel_rfl) rfl hB5) ?_)
    have hd := st1.done hK5
    exact ⟨hd.1, ZO.of hd.2⟩

def newF (n : Int) : Zn × Int := if n < 0 ∨ 24 < n then (zn0, 2) else (newZ n, 0)
set_option maxRecDepth 100000 in
theorem ZO.fresh {H : Heap} {base : Nat} {v : Value} {z : Zn} (h : ZO H base v z) {b : Nat} (hb : b ≤ base) : ZO H b v z := by
  obtain ⟨A, ca, e, ho⟩ := h
  exact ⟨A, ca, e, ho.mono hb⟩
set_option maxRecDepth 100000 in
theorem ZO.keep {H H' : Heap} {base g : Nat} {v : Value} {z : Zn} (h : ZO H base v z) (hk : Keep [g] H H') (hg : g < base) : ZO H' base v z := by
  obtain ⟨A, ca, e, ho⟩ := h
  refine ⟨A, ca, e, ho.keep hk fun b hb => ?_⟩
  have := (ho.lt b hb).1
  simp
  omega
set_option maxRecDepth 100000 in
theorem new_c (n : Int) (H : Heap) (h64 : In64 n) : CallsH Try.prog 25 [.int .i64 n] H fun v H' => Ext H H' ∧ ∃ u, v = .tuple #[u, .int .i64 (newF n).2] ∧ ZO H' H.size u (newF n).1 := by
  unfold In64 at h64
  refine callsH_of Try.func25 rfl Try.ntmps25 (Nat.le_of_ble_eq_true rfl) ?_
  refine wpSeq fun F1 hF1 => ?_
  refine wpRegion ?_
  refine seqN rfl rfl (nAlloc rfl Try.zeroValue27 rfl) (fun g2 H2 hx2 hB2 hg2 hl2 => ?_)
  refine seqQ rfl rfl (yAssign (v := .int _ _) rfl rfl) ?_
  refine seqNil ?_
  refine hF1 _ _ ?_; clear hF1
  refine wpSeq fun F2 hF2 => ?_
  refine wpSeq fun F3 hF3 => ?_
  refine wpRegion ?_
  refine seqQ rfl rfl (yMove (v := .int _ _) rfl rfl) ?_
  refine seqQ rfl rfl (yLss rfl rfl rfl) ?_
  -- guard t6
  refine seqMeet 6 [6, 7, 8, 9] 9 (decide (n < 0 ∨ 24 < n)) (fun hm4 => ?_) (fun J4 => ?_)
  · skip
    first | refine seqG rfl rfl rfl rfl (fun h6 => ?_) (fun h6 => ?_) | refine seqGB rfl rfl rfl rfl (fun h6 => ?_) (fun h6 => ?_)
    · skip
      refine seqU rfl rfl ?_
      refine seqU rfl rfl ?_
      refine seqQ rfl rfl (yPickT (v := .bool _) rfl rfl rfl) ?_
      exact hm4 _ (by repeat (first | (with_reducible exact Agree.refl _ _) | refine Agree.upd ?_ rfl | refine Agree.over ?_ rfl)) (by show Value.bool _ = Value.bool _; congr 1; grind)
    · skip
      refine seqQ rfl rfl (yMove (v := .int _ _) rfl rfl) ?_
      refine seqQ rfl rfl (yGtr rfl rfl rfl) ?_
      refine seqQ rfl rfl (yPickF (v := .bool _) rfl rfl rfl) ?_
      exact hm4 _ (by repeat (first | (with_reducible exact Agree.refl _ _) | refine Agree.upd ?_ rfl | refine Agree.over ?_ rfl)) (by show Value.bool _ = Value.bool _; congr 1; grind)
  refine seqNil ?_
  refine hF3 _ _ ?_; clear hF3
  -- if t9
  refine wpIf rfl (fun h1 => ?_) (fun h1 => ?_)
  · skip
    refine wpSeq fun F5 hF5 => ?_
    refine wpRegion ?_
    refine seqQ rfl rfl (yBuild (pl := [(0, 1), (1, 1)]) (vs := []) rfl Try.underlying27 Try.zeroValue27 rfl (by unfold Places; kernel_rfl) rfl rfl) ?_
    -- e slot None: store T27 t2 t10
    refine seqE0 rfl rfl (stepStoreB rfl (by kernel_rfl) rfl rfl rfl hB2 rfl ?_)
    intro H3 hB3 hK3
    refine seqQ rfl rfl (yAssign (v := .int _ _) rfl rfl) ?_
    refine seqNil ?_
    refine hF5 _ _ ?_; clear hF5
    -- ret
    refine wpRet (finR2 rfl (resC Try.underlying27 rfl (by kernel_rfl) rfl hB3) (resT (v := .int _ _) rfl) ?_)
    rw [show newF n = (zn0, 2) from if_pos h1]
    exact ⟨hx2.mine hK3 (by simp; omega), _, rfl, ZO.zero _ _⟩
  · skip
    have hn : n = (((n + 1).toNat : Nat) : Int) - 1 := by omega
    refine wpSkip ?_
    refine hF2 _ _ ?_; clear hF2
    refine wpSeq fun F6 hF6 => ?_
    refine wpRegion ?_
    refine seqQ rfl rfl (yMove (v := .int _ _) rfl rfl) ?_
    -- e slot 12: call F47<farandole/zone.zone> t11
    refine seqE rfl rfl (stepCall rfl Try.call47 rfl ?_)
    rw [hn]
    refine (zone_c (n + 1).toNat _ (by omega) (by omega)).mono ?_
    rintro v H3 ⟨hx3, A, ca, rfl, ho⟩
    -- e slot None: store T27 t2 t12
    refine seqE0 rfl rfl (stepStoreB rfl (by kernel_rfl) rfl rfl rfl (hB2.ext hx3) rfl ?_)
    intro H4 hB4 hK4
    refine seqQ rfl rfl (yAssign (v := .int _ _) rfl rfl) ?_
    refine seqNil ?_
    refine hF6 _ _ ?_; clear hF6
    -- ret
    refine wpRet (finR2 rfl (resC Try.underlying27 rfl (by kernel_rfl) rfl hB4) (resT (v := .int _ _) rfl) ?_)
    rw [show newF n = (newZ n, 0) from if_neg h1]
    refine ⟨(hx2.trans hx3).mine hK4 (by simp; omega), _, rfl, ?_⟩
    have e : newZ n = ⟨(((n + 1).toNat : Nat) : Int) - 1, fulL (n + 1).toNat⟩ := by unfold newZ; rw [← hn]
    rw [e]
    exact (ZO.keep ⟨A, ca, rfl, ho⟩ hK4 hB2.lt).fresh hx2.size
set_option maxRecDepth 100000 in
theorem nothing_c (n : Int) (H : Heap) (h0 : 0 ≤ n) (h1 : n ≤ 24) : CallsH Try.prog 52 [.int .i64 n] H fun v H' => Ext H H' ∧ ZO H' H.size v (nothZ n) := by
  have hn : n = (((n + 1).toNat : Nat) : Int) - 1 := by omega
  refine callsH_of Try.func52 rfl Try.ntmps52 (Nat.le_of_ble_eq_true rfl) ?_
  refine wpSeq fun F1 hF1 => ?_
  refine wpRegion ?_
  refine seqN rfl rfl (nAlloc rfl Try.zeroValue27 rfl) (fun g2 H2 hx2 hB2 hg2 hl2 => ?_)
  refine seqNil ?_
  refine hF1 _ _ ?_; clear hF1
  refine wpSeq fun F2 hF2 => ?_
  refine wpRegion ?_
  refine seqQ rfl rfl (yMove (v := .int _ _) rfl rfl) ?_
  -- e slot 5: call F47<farandole/zone.zone> t4
  refine seqE rfl rfl (stepCall rfl Try.call47 rfl ?_)
  rw [hn]
  refine (zone_c (n + 1).toNat _ (by omega) (by omega)).mono ?_
  rintro v H1 ⟨hx1, A, ca, rfl, ho⟩
  have hpos : 0 < (fulL (n + 1).toNat).length := by rw [fulL_len]; exact Nat.mul_pos (by omega) (by omega)
  obtain ⟨A', ca', e', -, hrd, hb⟩ := ho.form
  injection e' with e1 e2 e3
  subst e1; subst e3
  obtain ⟨p, rfl, hp⟩ := hrd.at1 hpos
  obtain ⟨hb1, hb2, hb3⟩ := hb p rfl
  refine seqN rfl rfl (nAlloc rfl Try.zeroValue27 rfl) (fun g3 H3 hx3 hB3 hg3 hl3 => ?_)
  -- e slot None: store T27 t3 t5
  refine seqE0 rfl rfl (stepStoreB rfl (by kernel_rfl) rfl rfl rfl hB3 rfl ?_)
  intro H4 hB4 hK4
  have l2 := hB2.lt
  have s2 := hx2.size
  have st : ZSt H g2 g3 27 ((((n + 1).toNat : Nat) : Int) - 1) p (fulL (n + 1).toNat).length ca (fulL (n + 1).toNat) H4 :=
    ⟨((hx2.trans hx1).trans hx3).mine hK4 (by have := hx1.size; simp; omega), ((ho.mono s2).ext hx3).keep hK4 (by intro b e; obtain rfl := Option.some.inj e; simp; omega), ((hB2.ext hx1).ext hx3).keep hK4 (by have := hx1.size; simp; omega), hB4, by omega, by omega, by omega, by omega⟩
  refine seqNil ?_
  refine hF2 _ _ ?_; clear hF2
  refine wpSeq fun F3 hF3 => ?_
  refine wpRegion ?_
  refine seqQ rfl rfl (yFieldAddr rfl Try.underlying27 rfl Try.sizeOf22 rfl rfl) ?_
  refine seqQ rfl rfl (yLoad rfl Try.underlying22 rfl rfl (st.b5.cell rfl)) ?_
  refine seqQ rfl rfl (yIdx1 rfl Try.underlying22 Try.sizeOf3 rfl rfl (show (0 : Int) = ((0 : Nat) : Int) from rfl) hpos) ?_
  -- e slot None: store T3 t8 [i:i64:-20001]
  refine seqE0 rfl rfl (stepStoreOwn st.own rfl Try.sizeOf3 rfl rfl rfl rfl hpos ?_)
  intro H5 hown5 hK5
  have st5 := st.store hown5 hK5
  refine seqNil ?_
  refine hF3 _ _ ?_; clear hF3
  refine wpSeq fun F4 hF4 => ?_
  refine wpRegion ?_
  refine seqQ rfl rfl (yLoadB st5.b5 rfl Try.underlying27 rfl Try.sizeOf27 rfl) ?_
  -- e slot None: store T27 t2 t9
  refine seqE0 rfl rfl (stepStoreB rfl (by kernel_rfl) rfl rfl rfl st5.b2 rfl ?_)
  intro H6 hB6 hK6
  refine seqNil ?_
  refine hF4 _ _ ?_; clear hF4
  -- ret
  refine wpRet (finR1 rfl (resC Try.underlying27 rfl (by kernel_rfl) rfl hB6) ?_)
  have hd := st5.done hK6
  refine ⟨hd.1, ?_⟩
  have := ZO.of (N := (((n + 1).toNat : Nat) : Int) - 1) hd.2
  rw [← hn] at this ⊢
  exact this
end Go.Proofs.Ytjkbkmbblidipaa
