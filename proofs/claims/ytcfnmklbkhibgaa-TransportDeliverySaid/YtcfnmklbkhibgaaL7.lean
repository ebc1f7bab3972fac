/- Package link: Tick. -/
import Derived.Test.YtcfnmklbkhibgaaL6
namespace Go.Proofs.Ytcfnmklbkhibgaa
open Go.RowKit

/-- A packet, as it lies in a slice. -/
structure BH where
  A : Option Addr
  cap : Nat
  data : List UInt8
def eBH : El BH := El.of (fun x => .slice x.A x.data.length x.cap) fun _ => rfl
set_option maxRecDepth 100000 in
theorem elem_eBH : Elem Try.prog 58 (.slice none 0 0) 1 24 := by unfold Elem; kernel_rfl
def FH.bh (x : FH) : BH := ⟨x.A, x.cap, x.data⟩
/-- What Tick returns. -/
def tickL (l : Lk) : Lk × List (List UInt8) := if ¬ ValidL l ∨ l.now = 1099511627776 then (lk0, []) else ({ l with now := l.now + 1, fly := l.fly.dropWhile (fun f => decide (f.1 = l.now + 1)) }, (l.fly.takeWhile (fun f => decide (f.1 = l.now + 1))).map (·.2))
set_option maxRecDepth 100000 in
theorem tickL_bad {l : Lk} (h : ¬ ValidL l ∨ l.now = 1099511627776) : tickL l = (lk0, []) := if_pos h
set_option maxRecDepth 100000 in
theorem tickL_ok {l : Lk} (h : ¬ (¬ ValidL l ∨ l.now = 1099511627776)) : tickL l = ({ l with now := l.now + 1, fly := l.fly.dropWhile (fun f => decide (f.1 = l.now + 1)) }, (l.fly.takeWhile (fun f => decide (f.1 = l.now + 1))).map (·.2)) := if_neg h
/-- Packets in a slice of the call's own. -/
structure PksRd (H : Heap) (base : Nat) (v : Value) (bs : List BH) : Prop where
  own : Own eBH 58 H base v bs
  data : ∀ x ∈ bs, Rd eByte H x.A x.data
  low : ∀ x ∈ bs, ∀ p, x.A = some p → base ≤ p.block
  cap : ∀ x ∈ bs, x.data.length ≤ x.cap
set_option maxRecDepth 100000 in
theorem PksRd.ext {H H' : Heap} {base : Nat} {v : Value} {bs : List BH} (h : PksRd H base v bs) (hx : Ext H H') : PksRd H' base v bs := ⟨h.own.ext hx, fun x hm => (h.data x hm).ext hx, h.low, h.cap⟩
set_option maxRecDepth 100000 in
theorem PksRd.keep {H H' : Heap} {base : Nat} {M : List Nat} {v : Value} {bs : List BH} (h : PksRd H base v bs) (hK : Keep M H H') (hg : ∀ b ∈ M, b < base) : PksRd H' base v bs :=
  ⟨h.own.keep hK (fun b hb hm => by have := (h.own.lt b hb).1; have := hg _ hm; omega), fun x hx => (h.data x hx).keep hK (fun p e hm => by have := h.low x hx p e; have := hg _ hm; omega), h.low, h.cap⟩
set_option maxRecDepth 100000 in
theorem PksRd.rd {H : Heap} {base n c : Nat} {A : Option Addr} {bs : List BH} (h : PksRd H base (.slice A n c) bs) : Rd eBH H A bs := (Own.rd h.own).2
set_option maxRecDepth 100000 in
theorem tick_c (l : LH) (H : Heap) (h : LkRd H l) (hs : LkSm l) :
    CallsH Try.prog 41 [.agg (lkC l).toArray] H fun v H' => ∃ (L : LH) (VA : Option Addr) (vc : Nat) (bs : List BH), v = .tuple #[.agg (lkC L).toArray, .slice VA bs.length vc] ∧ L.lk = (tickL l.lk).1 ∧ bs.map BH.data = (tickL l.lk).2 ∧ LkN H.size H' L ∧ PksRd H' H.size (.slice VA bs.length vc) bs ∧ Ext H H' := by
  refine callsH_of Try.func41 rfl Try.ntmps41 (Nat.le_of_ble_eq_true rfl) ?_
  refine wpSeq fun F1 hF1 => ?_
  refine wpRegion ?_
  refine seqN rfl rfl (nBoxA rfl rfl) (fun g1 H1 hx1 hB1 hg1 hl1 => ?_)
  refine seqN rfl rfl (nAlloc rfl Try.zeroValue65 rfl) (fun g2 H2 hx2 hB2 hg2 hl2 => ?_)
  refine seqQ rfl rfl (yAssign (v := .slice _ _ _) rfl rfl) ?_
  refine seqNil ?_
  refine hF1 _ _ ?_; clear hF1
  refine wpSeq fun F2 hF2 => ?_
  refine wpSeq fun F3 hF3 => ?_
  -- region 1
  have hE := hx1.trans hx2
  have s1 := hx1.size
  have s2 := hx2.size
  have h1 := hB1.ext hx2
  have h2 := hB2
  have hl1 := h1.lt
  have hl2 := h2.lt
  clear hx1 hx2 hB1 hB2
  refine wpRegion ?_
  refine seqQ rfl rfl (yLoadB h1 rfl Try.underlying65 rfl Try.sizeOf65 rfl) ?_
  -- e slot 6: call F53<farandole/link.Valid> t5
  refine seqE rfl rfl (stepCall rfl Try.call53 rfl ?_)
  refine (lValid_c l H2 (h.ext hE) hs).mono ?_
  rintro v H5 ⟨rfl, x5⟩
  replace h1 := h1.ext x5
  replace h2 := h2.ext x5
  have s5 := x5.size
  replace hE := hE.trans x5
  clear x5
  by_cases hbad : ¬ ValidL l.lk ∨ l.lk.now = 1099511627776
  · skip
    have hend : ∀ H6, Keep [g2] H5 H6 → Ext H H6 := fun H6 hK => hE.mine hK (by simp; omega)
    by_cases hv : ValidL l.lk
    · skip
      rw [decide_eq_true hv]
      have hsent : l.now = 1099511627776 := hbad.resolve_left (fun hn => hn hv)
      refine seqQ rfl rfl (yNot rfl rfl) ?_
      refine seqQ rfl rfl (yMove (v := .bool false) rfl rfl) ?_
      refine seqQ rfl rfl (yFieldAddr rfl Try.underlying65 rfl Try.sizeOf3 rfl rfl) ?_
      refine seqQ rfl rfl (yLoad rfl Try.underlying3 rfl rfl (h1.cell rfl)) ?_
      refine seqQ rfl rfl (yEql rfl rfl rfl) ?_
      refine seqQ rfl rfl (yPickF (v := .bool _) rfl rfl rfl) ?_
      refine seqNil ?_
      refine hF3 _ _ ?_; clear hF3
      -- if t12
      rw [decide_eq_true hsent]
      refine wpT rfl ?_
      refine wpSeq fun F4 hF4 => ?_
      refine wpRegion ?_
      refine seqQ rfl rfl (yBuild (pl := [(0, 1), (1, 1), (2, 1), (3, 1)]) (vs := []) rfl Try.underlying65 Try.zeroValue65 rfl (by unfold Places; kernel_rfl) rfl rfl) ?_
      -- e slot None: store T65 t2 t13
      refine seqE0 rfl rfl (stepStoreB rfl (by kernel_rfl) rfl rfl rfl h2 rfl ?_)
      intro H6 h6 hK6
      refine seqQ rfl rfl (yAssign (v := .slice _ _ _) rfl rfl) ?_
      refine seqNil ?_
      refine hF4 _ _ ?_; clear hF4
      -- ret
      refine wpRet (finR2 rfl (resC Try.underlying65 rfl (by kernel_rfl) rfl h6) (resT (v := .slice _ _ _) rfl) ?_)
      rw [tickL_bad hbad]
      exact ⟨lh0, none, 0, [], rfl, rfl, rfl, lh0_n _ _, ⟨Own.nil _ _, (fun x hx => by cases hx), (fun x hx => by cases hx), (fun x hx => by cases hx)⟩, hend _ hK6⟩
    · skip
      rw [decide_eq_false hv]
      refine seqQ rfl rfl (yNot rfl rfl) ?_
      refine seqQ rfl rfl (yMove (v := .bool true) rfl rfl) ?_
      refine seqU rfl rfl ?_
      refine seqU rfl rfl ?_
      refine seqU rfl rfl ?_
      refine seqQ rfl rfl (yPickT (v := .bool _) rfl rfl rfl) ?_
      refine seqNil ?_
      refine hF3 _ _ ?_; clear hF3
      -- if t12
      refine wpT rfl ?_
      refine wpSeq fun F5 hF5 => ?_
      refine wpRegion ?_
      refine seqQ rfl rfl (yBuild (pl := [(0, 1), (1, 1), (2, 1), (3, 1)]) (vs := []) rfl Try.underlying65 Try.zeroValue65 rfl (by unfold Places; kernel_rfl) rfl rfl) ?_
      -- e slot None: store T65 t2 t13
      refine seqE0 rfl rfl (stepStoreB rfl (by kernel_rfl) rfl rfl rfl h2 rfl ?_)
      intro H6 h6 hK6
      refine seqQ rfl rfl (yAssign (v := .slice _ _ _) rfl rfl) ?_
      refine seqNil ?_
      refine hF5 _ _ ?_; clear hF5
      -- ret
      refine wpRet (finR2 rfl (resC Try.underlying65 rfl (by kernel_rfl) rfl h6) (resT (v := .slice _ _ _) rfl) ?_)
      rw [tickL_bad hbad]
      exact ⟨lh0, none, 0, [], rfl, rfl, rfl, lh0_n _ _, ⟨Own.nil _ _, (fun x hx => by cases hx), (fun x hx => by cases hx), (fun x hx => by cases hx)⟩, hend _ hK6⟩
  · skip
    have hv : ValidL l.lk := Classical.byContradiction fun hn => hbad (.inl hn)
    have hsent : ¬ l.now = 1099511627776 := fun e => hbad (.inr e)
    rw [decide_eq_true hv]
    refine seqQ rfl rfl (yNot rfl rfl) ?_
    refine seqQ rfl rfl (yMove (v := .bool false) rfl rfl) ?_
    refine seqQ rfl rfl (yFieldAddr rfl Try.underlying65 rfl Try.sizeOf3 rfl rfl) ?_
    refine seqQ rfl rfl (yLoad rfl Try.underlying3 rfl rfl (h1.cell rfl)) ?_
    refine seqQ rfl rfl (yEql rfl rfl rfl) ?_
    refine seqQ rfl rfl (yPickF (v := .bool _) rfl rfl rfl) ?_
    refine seqNil ?_
    refine hF3 _ _ ?_; clear hF3
    -- if t12
    rw [decide_eq_false hsent]
    refine wpF rfl ?_
    obtain ⟨v1, ⟨v2, v3⟩, ⟨v4, v5⟩, -, -⟩ := id hv
    have v2 : 0 ≤ l.now := v2
    have v3 : l.now ≤ 1099511627776 := v3
    have hgood := hv.good
    refine wpSkip ?_
    refine hF2 _ _ ?_; clear hF2
    refine wpSeq fun F6 hF6 => ?_
    refine wpRegion ?_
    refine seqQ rfl rfl (yLoadB h1 rfl Try.underlying65 rfl Try.sizeOf65 rfl) ?_
    -- e slot 15: call F54<farandole/link.copied> t14
    refine seqE rfl rfl (stepCall rfl Try.call54 rfl ?_)
    refine (copied_c l H5 (h.ext hE) hs).mono ?_
    rintro v H6 ⟨l1, rfl, hl1, ow, x6⟩
    obtain ⟨q1, q2, q3, q4⟩ := LkRd.sm_eq hl1
    have hb1 : g1 < H5.size := h1.lt
    have hb2 : g2 < H5.size := h2.lt
    have s6 := x6.size
    replace h1 := h1.ext x6
    replace h2 := h2.ext x6
    replace hE := hE.trans x6
    -- e slot None: store T65 t1 t15
    refine seqE0 rfl rfl (stepStoreB rfl (by kernel_rfl) rfl rfl rfl h1 rfl ?_)
    intro H7 h1' hK7
    replace h1 : Blk H7 g1 (lkC l1) 65 := h1'
    replace h2 := h2.keep hK7 (by simp; omega)
    replace hE := hE.mine hK7 (by simp; omega)
    replace ow := ow.keep hK7 hb1
    have s7 := hK7.size
    clear h1' hK7 x6
    refine seqNil ?_
    refine hF6 _ _ ?_; clear hF6
    refine wpSeq fun F7 hF7 => ?_
    refine wpRegion ?_
    refine seqQ rfl rfl (yFieldAddr rfl Try.underlying65 rfl Try.sizeOf3 rfl rfl) ?_
    refine seqQ rfl rfl (yLoad rfl Try.underlying3 rfl rfl (h1.cell rfl)) ?_
    refine seqQ rfl rfl (yAdd rfl rfl rfl (by unfold In64; rw [q2]; omega)) ?_
    refine seqQ rfl rfl (yFieldAddr rfl Try.underlying65 rfl Try.sizeOf3 rfl rfl) ?_
    -- e slot None: store T3 t19 t18
    refine seqE0 rfl rfl (stepStore rfl Try.sizeOf3 rfl rfl rfl rfl h1 (Nat.le_of_ble_eq_true rfl) ?_)
    intro H8 h1' hK8
    replace h1 : Blk H8 g1 (lkC { l1 with now := l1.now + 1 }) 65 := h1'
    replace h2 := h2.keep hK8 (by simp; omega)
    replace hE := hE.mine hK8 (by simp; omega)
    replace ow := ow.keep hK8 hb1
    have s8 := hK8.size
    clear h1' hK8
    have hfly : l1.fly.map FH.fl = l.lk.fly := congrArg Lk.fly hl1
    have hfl3 : l1.fly.length ≤ 300 := by have := hgood.len; rw [← hfly] at this; simpa using this
    have owl : l1.fly.length ≤ l1.fc := ow.rd.fcap
    refine seqNil ?_
    refine hF7 _ _ ?_; clear hF7
    refine wpSeq fun F8 hF8 => ?_
    refine wpRegion ?_
    refine seqQ rfl rfl (yAssign (v := .slice _ _ _) rfl rfl) ?_
    refine seqNil ?_
    refine hF8 _ _ ?_; clear hF8
    refine wpSeq fun F9 hF9 => ?_
    -- loop
    refine wpBlock ?_
    refine wpLoopS [4, 20, 21, 22, 23, 24, 25, 26, 27, 28, 29, 30, 31, 32, 33, 34, 35, 36, 37, 38, 39, 40, 41, 42, 43, 44, 45] (fun x : Nat × Value => [(4, x.2)]) (fun x H' => x.1 ≤ l1.fly.length ∧ Keep [g1] H8 H' ∧ (∀ (j : Nat) (hj : j < l1.fly.length), j < x.1 → l1.fly[j].due = l1.now + 1) ∧ (∃ FA' fc', Blk H' g1 (lkC ⟨l1.PA, l1.pc, l1.pat, l1.now + 1, l1.sent, FA', fc', l1.fly.drop x.1⟩) 65 ∧ Rd eFH H' FA' (l1.fly.drop x.1) ∧ (∀ p, FA' = some p → H5.size ≤ p.block ∧ p.block < H8.size) ∧ (l1.fly.drop x.1).length ≤ fc') ∧ Own eBH 58 H' H8.size x.2 ((l1.fly.take x.1).map FH.bh)) (fun x => l1.fly.length - x.1) (0, .slice none 0 0) ⟨rfl, trivial⟩ ⟨Nat.zero_le _, Keep.refl _ _, fun j hj h => absurd h (by dsimp only; omega), ⟨l1.FA, l1.fc, h1, ow.rd.fly, fun p e => ow.own.lt p.block (by rw [e]; rfl), owl⟩, Own.nil _ _⟩ ?_
    clear h1
    rintro ⟨k, v⟩ J Hk ⟨hk, hK, hdue, ⟨FA', fc', h1, rF, lowF, hfc⟩, oo⟩
    dsimp only at hk hdue h1 rF hfc oo
    obtain ⟨VA, vc, rfl, -⟩ := oo.form
    have sk := hK.size
    have hdl : (l1.fly.drop k).length = l1.fly.length - k := List.length_drop
    have rdata : ∀ x ∈ l1.fly, Rd eByte Hk x.A x.data := fun x hx => (ow.rd.data x hx).keep hK (fun p e => by have := ow.lowD x hx p e; simp; omega)
    have hfin : ∀ (hstop : ∀ (j : Nat) (hj : j < l1.fly.length), j = k → ¬ l1.fly[j].due = l1.now + 1), ((l1.fly.drop k).map FH.fl = l.lk.fly.dropWhile (fun f => decide (f.1 = l.lk.now + 1))) ∧ ((l1.fly.take k).map FH.bh).map BH.data = (l.lk.fly.takeWhile (fun f => decide (f.1 = l.lk.now + 1))).map (·.2) := fun hstop => by
      have hlm : (l1.fly.map FH.fl).length = l1.fly.length := List.length_map ..
      have hn : l.lk.now = l1.now := q2.symm
      obtain ⟨e1, e2⟩ := tw_take (fun f : Fl => decide (f.1 = l.lk.now + 1)) (l1.fly.map FH.fl) k (by omega) (fun j hj hjk => by
        have := hdue j (by omega) hjk
        rw [List.getElem_map, hn]
        exact decide_eq_true this) (fun j hj hjk => by
        have := hstop j (by omega) hjk
        rw [List.getElem_map, hn]
        exact decide_eq_false this)
      rw [← hfly, e1, e2]
      simp [List.map_take, List.map_drop, FH.bh, FH.fl, Function.comp_def]
    refine wpSeq fun F10 hF10 => ?_
    refine wpSeq fun F11 hF11 => ?_
    refine wpRegionD Try_mixed [.q, .q, .q, .q, .q, .q, .q, .q, .q, .q, .q, .q, .q, .q] 12 [0, 1, 3, 7, 15, 31, 63, 127, 255, 511, 31, 1055, 4095, 8191] [] (by kernel_rfl) _ rfl [0, 1, 2, 3, 4, 5, 6, 7, 8, 9, 10, 11] rfl (by simp) ?_
    refine lexQ rfl rfl rfl rfl (fun H hM => (yFieldAddr rfl Try.underlying65 rfl Try.sizeOf63 rfl rfl)) ?_
    refine lexQ rfl rfl rfl rfl (fun H hM => (yLoad rfl Try.underlying63 rfl rfl (hM.ext.cell (h1.cell rfl)))) ?_
    refine lexQ rfl rfl rfl rfl (fun H hM => (yLen rfl Try.underlying63 rfl)) ?_
    refine lexQ rfl rfl rfl rfl (fun H hM => (yGtr rfl rfl rfl)) ?_
    -- guard t24
    refine lexG rfl rfl rfl rfl rfl rfl (fun hpos => ?_) (fun hpos => ?_)
    · skip
      dsimp only at hpos
      have hk : k < l1.fly.length := by omega
      have h0 : 0 < (l1.fly.drop k).length := by omega
      obtain ⟨p, ep, hp⟩ := rF.at h0
      have e0 : (l1.fly.drop k)[0] = l1.fly[k] := by simp
      rw [e0] at hp
      refine lexQ rfl rfl rfl rfl (fun H hM => (yFieldAddr rfl Try.underlying65 rfl Try.sizeOf63 rfl rfl)) ?_
      refine lexQ rfl rfl rfl rfl (fun H hM => (yLoad rfl Try.underlying63 rfl rfl (hM.ext.cell (h1.cell rfl)))) ?_
      refine lexQ rfl rfl rfl rfl (fun H hM => (yIdxP rfl Try.underlying63 Try.sizeOf98 rfl rfl ep (show (0 : Int) = ((0 : Nat) : Int) by rfl) h0)) ?_
      refine lexQ rfl rfl rfl rfl (fun H hM => (yFieldAddr rfl Try.underlying98 rfl Try.sizeOf3 rfl rfl)) ?_
      refine lexQ rfl rfl rfl rfl (fun H hM => (yLoad rfl Try.underlying3 rfl rfl (hM.ext.cell (hp 0 _ rfl)))) ?_
      refine lexQ rfl rfl rfl rfl (fun H hM => (yFieldAddr rfl Try.underlying65 rfl Try.sizeOf3 rfl rfl)) ?_
      refine lexQ rfl rfl rfl rfl (fun H hM => (yLoad rfl Try.underlying3 rfl rfl (hM.ext.cell (h1.cell rfl)))) ?_
      -- tail
      refine lexNil0 rfl (fun hM => ?_)
      refine seqQ rfl rfl (yEql rfl rfl rfl) ?_
      refine seqQ rfl rfl (yPickT (v := .bool _) rfl rfl rfl) ?_
      refine seqNil ?_
      refine hF11 _ _ ?_; clear hF11
      -- if t33
      refine wpIf rfl (fun hdu => ?_) (fun hdu => ?_)
      · skip
        refine wpSkip ?_
        refine hF10 _ _ ?_; clear hF10
        refine wpBlock ?_
        refine wpSeq fun F12 hF12 => ?_
        refine wpRegion ?_
        refine seqQ rfl rfl (yMove (v := .slice _ _ _) rfl rfl) ?_
        refine seqQ rfl rfl (yFieldAddr rfl Try.underlying65 rfl Try.sizeOf63 rfl rfl) ?_
        refine seqQ rfl rfl (yLoad rfl Try.underlying63 rfl rfl (h1.cell rfl)) ?_
        refine seqQ rfl rfl (yIdxP rfl Try.underlying63 Try.sizeOf98 rfl rfl ep (show (0 : Int) = ((0 : Nat) : Int) by rfl) h0) ?_
        refine seqQ rfl rfl (yFieldAddr rfl Try.underlying98 rfl Try.sizeOf58 rfl rfl) ?_
        refine seqQ rfl rfl (yLoad rfl Try.underlying58 rfl rfl (hp 1 _ rfl)) ?_
        refine seqN rfl rfl (nBuildSlice (vs := [.slice _ _ _]) rfl Try.underlying84 Try.sizeOf58 Try.zeroValue58 rfl rfl rfl rfl) (fun g40 H40 hx40 hB40 hg40 hl40 => ?_)
        -- e slot 41: builtin append t34 t40 : [84, 84]
        refine seqE rfl rfl (stepApp (c := eBH) (oo.ext hx40) rfl Try.underlying84 elem_eBH rfl (by omega) rfl rfl rfl (Blk.rd (c := eBH) (l := [l1.fly[k].bh]) hB40) (by simp; omega) (by have := hx40.size; omega) ?_)
        intro v' Ha oa ga
        obtain ⟨VA', vc', rfl, -⟩ := oa.form
        have ob : ∀ b ∈ (Value.slice VA ((l1.fly.take k).map FH.bh).length vc).ownBlock.toList, H8.size ≤ b := fun b hb => by rw [Option.mem_toList] at hb; exact (oo.lt b hb).1
        have h1a := (h1.ext hx40).keep ga.1 (fun hm => by have := ob _ hm; omega)
        have rFa := (rF.ext hx40).keep ga.1 (fun p e hm => by have := ob _ hm; have := lowF p e; omega)
        have hKa : Keep [g1] H8 Ha := by
          refine ⟨by have := hx40.size; have := ga.1.size; omega, fun b hb hm => ?_⟩
          rw [ga.1.at_ b (by have := hx40.size; omega) (fun hm2 => by have := ob _ hm2; omega), hx40.at_ b (by omega)]
          exact hK.at_ b hb hm
        refine seqQ rfl rfl (yAssign (v := .slice _ _ _) rfl rfl) ?_
        refine seqNil ?_
        refine hF12 _ _ ?_; clear hF12
        refine wpRegion ?_
        refine seqQ rfl rfl (yFieldAddr rfl Try.underlying65 rfl Try.sizeOf63 rfl rfl) ?_
        refine seqQ rfl rfl (yLoad rfl Try.underlying63 rfl rfl (h1a.cell rfl)) ?_
        refine seqQ rfl rfl (ySliceL rfl Try.underlying63 Try.sizeOf98 rfl rfl (show (1 : Int) = ((1 : Nat) : Int) by rfl) h0) ?_
        refine seqQ rfl rfl (yFieldAddr rfl Try.underlying65 rfl Try.sizeOf63 rfl rfl) ?_
        -- e slot None: store T63 t45 t44
        refine seqE0 rfl rfl (stepStore rfl Try.sizeOf63 rfl rfl rfl rfl h1a (Nat.le_of_ble_eq_true rfl) ?_)
        intro Hb h1b hKb
        refine seqNil ?_
        -- end loop
        have edd : (l1.fly.drop k).drop 1 = l1.fly.drop (k + 1) := List.drop_drop
        have edl : (l1.fly.drop k).length - 1 = (l1.fly.drop (k + 1)).length := by rw [List.length_drop, List.length_drop]; omega
        have etk : (l1.fly.take (k + 1)).map FH.bh = (l1.fly.take k).map FH.bh ++ [l1.fly[k].bh] := by rw [List.take_succ_eq_append_getElem hk, List.map_append]; rfl
        have rd1 := (rFa.keep hKb (fun p e => by have := lowF p e; simp; omega)).drop (k := 1) (cap := fc') hfc
        rw [edd] at rd1
        rw [edl] at h1b
        refine loopEnd (k + 1, _) (by repeat (first | (with_reducible exact Agree.refl _ _) | refine Agree.upd ?_ rfl | refine Agree.over ?_ rfl)) (by dsimp only; omega) ⟨rfl, trivial⟩ ⟨hk, ⟨by have := hKa.size; have := hKb.size; omega, fun b hb hm => (hKb.at_ b (by have := hKa.size; omega) hm).trans (hKa.at_ b hb hm)⟩, fun j hj hjk => ?_, ⟨if fc' = 1 then FA' else FA'.map (fun x => x.add (1 * 2)), fc' - 1, h1b, rd1, fun p e => ?_, by dsimp only; rw [← edl]; omega⟩, ?_⟩
        · by_cases e : j = k
          · subst e
            exact hdu
          · exact hdue j hj (by dsimp only at hjk; omega)
        · split at e
          · exact lowF p e
          · rw [ep] at e
            simp only [Option.map_some, Option.some.injEq] at e
            rw [← e, block_of_add]
            exact lowF _ ep
        · dsimp only
          rw [etk]
          exact oa.keep hKb (fun b hb => by have := (oa.lt b hb).1; simp; omega)
      · skip
        obtain ⟨f1, f2⟩ := hfin (fun j hj e => by subst e; exact hdu)
        refine wpExit ?_
        refine hF9 _ _ ?_; clear hF9
        refine wpSeq fun F13 hF13 => ?_
        refine wpRegion ?_
        refine seqQ rfl rfl (yLoadB h1 rfl Try.underlying65 rfl Try.sizeOf65 rfl) ?_
        refine seqQ rfl rfl (yMove (v := .slice _ _ _) rfl rfl) ?_
        -- e slot None: store T65 t2 t46
        refine seqE0 rfl rfl (stepStoreB rfl (by kernel_rfl) rfl rfl rfl (h2.keep hK (by simp; omega)) rfl ?_)
        intro Hz h2' hKz
        refine seqQ rfl rfl (yAssign (v := .slice _ _ _) rfl rfl) ?_
        refine seqNil ?_
        refine hF13 _ _ ?_; clear hF13
        -- ret
        refine wpRet (finR2 rfl (resC Try.underlying65 rfl (by kernel_rfl) rfl h2') (resT (v := .slice _ _ _) rfl) ?_)
        rw [tickL_ok hbad]
        have keepz : ∀ {α : Type} {c : El α} {A : Option Addr} {d : List α}, Rd c Hk A d → (∀ p, A = some p → p.block ≠ g2) → Rd c Hz A d := fun h0 hp => h0.keep hKz (fun p e => by simpa using hp p e)
        refine ⟨⟨l1.PA, l1.pc, l1.pat, l1.now + 1, l1.sent, FA', fc', l1.fly.drop k⟩, VA, vc, (l1.fly.take k).map FH.bh, rfl, ?_, f2, ⟨⟨?_, ?_, ?_, hfc⟩, (fun p e => by have := ow.lowP p e; omega), (fun p e => by have := lowF p e; omega), (fun x hx p e => by have := ow.lowD x (List.mem_of_mem_drop hx) p e; omega)⟩, ⟨?_, ?_, ?_, ?_⟩, ?_⟩
        · rw [Lk.eq_iff]
          exact ⟨q1, show l1.now + 1 = l.now + 1 by rw [q2], q3, f1⟩
        · exact keepz (ow.rd.pat.keep hK (fun p e => by have := ow.lowP p e; simp; omega)) (fun p e => by have := ow.lowP p e; omega)
        · exact keepz rF (fun p e => by have := lowF p e; omega)
        · intro x hx
          have hx : x ∈ l1.fly := List.mem_of_mem_drop hx
          exact keepz (rdata x hx) (fun p e => by have := ow.lowD x hx p e; omega)
        · exact (oo.keep hKz (fun b hb => by have := (oo.lt b hb).1; simp; omega)).mono (by omega)
        · intro x hx
          obtain ⟨y, hy, rfl⟩ := List.mem_map.1 hx
          have hy : y ∈ l1.fly := List.mem_of_mem_take hy
          exact keepz (rdata y hy) (fun p e => by have := ow.lowD y hy p e; omega)
        · intro x hx
          obtain ⟨y, hy, rfl⟩ := List.mem_map.1 hx
          have hy : y ∈ l1.fly := List.mem_of_mem_take hy
          intro p e
          have := ow.lowD y hy p e
          omega
        · intro x hx
          obtain ⟨y, hy, rfl⟩ := List.mem_map.1 hx
          exact ow.dcap y (List.mem_of_mem_take hy)
        · exact (hE.mine hK (by simp; omega)).mine hKz (by simp; omega)
    · skip
      dsimp only at hpos
      have hk : k = l1.fly.length := by omega
      obtain ⟨f1, f2⟩ := hfin (fun j hj e => by omega)
      refine lexU rfl rfl rfl ?_
      refine lexU rfl rfl rfl ?_
      refine lexU rfl rfl rfl ?_
      refine lexU rfl rfl rfl ?_
      refine lexU rfl rfl rfl ?_
      refine lexU rfl rfl rfl ?_
      refine lexU rfl rfl rfl ?_
      -- tail
      refine lexNil0 rfl (fun hM => ?_)
      refine seqU rfl rfl ?_
      refine seqQ rfl rfl (yPickF (v := .bool _) rfl rfl rfl) ?_
      refine seqNil ?_
      refine hF11 _ _ ?_; clear hF11
      -- if t33
      refine wpF rfl ?_
      refine wpExit ?_
      refine hF9 _ _ ?_; clear hF9
      refine wpSeq fun F14 hF14 => ?_
      refine wpRegion ?_
      refine seqQ rfl rfl (yLoadB h1 rfl Try.underlying65 rfl Try.sizeOf65 rfl) ?_
      refine seqQ rfl rfl (yMove (v := .slice _ _ _) rfl rfl) ?_
      -- e slot None: store T65 t2 t46
      refine seqE0 rfl rfl (stepStoreB rfl (by kernel_rfl) rfl rfl rfl (h2.keep hK (by simp; omega)) rfl ?_)
      intro Hz h2' hKz
      refine seqQ rfl rfl (yAssign (v := .slice _ _ _) rfl rfl) ?_
      refine seqNil ?_
      refine hF14 _ _ ?_; clear hF14
      -- ret
      refine wpRet (finR2 rfl (resC Try.underlying65 rfl (by kernel_rfl) rfl h2') (resT (v := .slice _ _ _) rfl) ?_)
      rw [tickL_ok hbad]
      have keepz : ∀ {α : Type} {c : El α} {A : Option Addr} {d : List α}, Rd c Hk A d → (∀ p, A = some p → p.block ≠ g2) → Rd c Hz A d := fun h0 hp => h0.keep hKz (fun p e => by simpa using hp p e)
      refine ⟨⟨l1.PA, l1.pc, l1.pat, l1.now + 1, l1.sent, FA', fc', l1.fly.drop k⟩, VA, vc, (l1.fly.take k).map FH.bh, rfl, ?_, f2, ⟨⟨?_, ?_, ?_, hfc⟩, (fun p e => by have := ow.lowP p e; omega), (fun p e => by have := lowF p e; omega), (fun x hx p e => by have := ow.lowD x (List.mem_of_mem_drop hx) p e; omega)⟩, ⟨?_, ?_, ?_, ?_⟩, ?_⟩
      · rw [Lk.eq_iff]
        exact ⟨q1, show l1.now + 1 = l.now + 1 by rw [q2], q3, f1⟩
      · exact keepz (ow.rd.pat.keep hK (fun p e => by have := ow.lowP p e; simp; omega)) (fun p e => by have := ow.lowP p e; omega)
      · exact keepz rF (fun p e => by have := lowF p e; omega)
      · intro x hx
        have hx : x ∈ l1.fly := List.mem_of_mem_drop hx
        exact keepz (rdata x hx) (fun p e => by have := ow.lowD x hx p e; omega)
      · exact (oo.keep hKz (fun b hb => by have := (oo.lt b hb).1; simp; omega)).mono (by omega)
      · intro x hx
        obtain ⟨y, hy, rfl⟩ := List.mem_map.1 hx
        have hy : y ∈ l1.fly := List.mem_of_mem_take hy
        exact keepz (rdata y hy) (fun p e => by have := ow.lowD y hy p e; omega)
      · intro x hx
        obtain ⟨y, hy, rfl⟩ := List.mem_map.1 hx
        have hy : y ∈ l1.fly := List.mem_of_mem_take hy
        intro p e
        have := ow.lowD y hy p e
        omega
      · intro x hx
        obtain ⟨y, hy, rfl⟩ := List.mem_map.1 hx
        exact ow.dcap y (List.mem_of_mem_take hy)
      · exact (hE.mine hK (by simp; omega)).mine hKz (by simp; omega)
end Go.Proofs.Ytcfnmklbkhibgaa
