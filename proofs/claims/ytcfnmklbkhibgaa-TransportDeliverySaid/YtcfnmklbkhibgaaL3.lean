/- Package link: copies of byte strings and of links. -/
import Derived.Test.YtcfnmklbkhibgaaL2
namespace Go.Proofs.Ytcfnmklbkhibgaa
open Go.RowKit

set_option maxRecDepth 100000 in
theorem rd_none {α : Type} {c : El α} {H : Heap} {l : List α} (h : Rd c H none l) : l = [] := by
  cases l with
  | nil => rfl
  | cons x l => obtain ⟨p, e, _⟩ := h (by simp); cases e
set_option maxRecDepth 100000 in
theorem bClone_c (A : Option Addr) (c : Nat) (l : List UInt8) (H : Heap) (hA : Rd eByte H A l) (hl : l.length ≤ 1000000000) :
    CallsH Try.prog 40 [.slice A l.length c] H fun v H' => Own eByte 5 H' H.size v l ∧ Ext H H' := by
  refine callsH_of Try.func40 rfl Try.ntmps40 (Nat.le_of_ble_eq_true rfl) ?_
  refine wpSeq fun F1 hF1 => ?_
  refine wpRegion ?_
  refine seqQ rfl rfl (yAssign (v := .slice _ _ _) rfl rfl) ?_
  refine seqNil ?_
  refine hF1 _ _ ?_; clear hF1
  refine wpSeq fun F2 hF2 => ?_
  refine wpSeq fun F3 hF3 => ?_
  refine wpRegion ?_
  refine seqQ rfl rfl (yMove (v := .slice _ _ _) rfl rfl) ?_
  refine seqQ rfl rfl (yEqlNil rfl Try.underlying58 rfl rfl) ?_
  refine seqNil ?_
  refine hF3 _ _ ?_; clear hF3
  -- if t4
  refine wpCond rfl (fun hn => ?_) (fun hn => ?_)
  · skip
    obtain rfl : A = none := by simpa using hn
    obtain rfl := rd_none hA
    refine wpSeq fun F4 hF4 => ?_
    refine wpRegion ?_
    refine seqQ rfl rfl (yAssign (v := .slice _ _ _) rfl rfl) ?_
    refine seqNil ?_
    refine hF4 _ _ ?_; clear hF4
    -- ret
    refine wpRet (fin1 (v := .slice _ _ _) rfl rfl ?_)
    exact ⟨Own.nil _ _, Ext.refl _⟩
  · skip
    refine wpSkip ?_
    refine hF2 _ _ ?_; clear hF2
    refine wpSeq fun F5 hF5 => ?_
    refine wpRegion ?_
    refine seqN rfl rfl (nBuildSlice (vs := []) rfl Try.underlying58 Try.sizeOf5 Try.zeroValue5 rfl rfl rfl rfl) (fun g5 H5 hx5 hB5 hg5 hl5 => ?_)
    refine seqQ rfl rfl (yMove (v := .slice _ _ _) rfl rfl) ?_
    -- e slot 7: builtin append t5 t6 : [58, 58]
    refine seqE rfl rfl (stepApp (c := eByte) (Own.lit (c := eByte) (l := []) (base := H.size) hB5 hg5 (by simp)) rfl Try.underlying58 elem_eByte rfl (by omega) rfl rfl rfl (hA.ext hx5) (by simp; omega) hx5.size ?_)
    intro v H1 hown hgrew
    obtain ⟨A2, c2, rfl, -⟩ := hown.form
    refine seqQ rfl rfl (yAssign (v := .slice _ _ _) rfl rfl) ?_
    refine seqNil ?_
    refine hF5 _ _ ?_; clear hF5
    -- ret
    refine wpRet (fin1 (v := .slice _ _ _) rfl rfl ?_)
    exact ⟨by simpa using hown, hgrew.ext hx5 (by rintro g e; obtain rfl := Option.some.inj e; exact hg5)⟩
set_option maxRecDepth 100000 in
theorem fClone_c (A : Option Addr) (c : Nat) (l : List FH) (H : Heap) (hA : Rd eFH H A l) (hl : l.length ≤ 1000000000) :
    CallsH Try.prog 69 [.slice A l.length c] H fun v H' => Own eFH 98 H' H.size v l ∧ Ext H H' := by
  refine callsH_of Try.func69 rfl Try.ntmps69 (Nat.le_of_ble_eq_true rfl) ?_
  refine wpSeq fun F1 hF1 => ?_
  refine wpRegion ?_
  refine seqQ rfl rfl (yAssign (v := .slice _ _ _) rfl rfl) ?_
  refine seqNil ?_
  refine hF1 _ _ ?_; clear hF1
  refine wpSeq fun F2 hF2 => ?_
  refine wpSeq fun F3 hF3 => ?_
  refine wpRegion ?_
  refine seqQ rfl rfl (yMove (v := .slice _ _ _) rfl rfl) ?_
  refine seqQ rfl rfl (yEqlNil rfl Try.underlying63 rfl rfl) ?_
  refine seqNil ?_
  refine hF3 _ _ ?_; clear hF3
  -- if t4
  refine wpCond rfl (fun hn => ?_) (fun hn => ?_)
  · skip
    obtain rfl : A = none := by simpa using hn
    obtain rfl := rd_none hA
    refine wpSeq fun F4 hF4 => ?_
    refine wpRegion ?_
    refine seqQ rfl rfl (yAssign (v := .slice _ _ _) rfl rfl) ?_
    refine seqNil ?_
    refine hF4 _ _ ?_; clear hF4
    -- ret
    refine wpRet (fin1 (v := .slice _ _ _) rfl rfl ?_)
    exact ⟨Own.nil _ _, Ext.refl _⟩
  · skip
    refine wpSkip ?_
    refine hF2 _ _ ?_; clear hF2
    refine wpSeq fun F5 hF5 => ?_
    refine wpRegion ?_
    refine seqN rfl rfl (nBuildSliceN (vs := []) rfl Try.underlying63 Try.sizeOf98 Try.zeroValue98 rfl rfl rfl rfl rfl) (fun g5 H5 hx5 hB5 hg5 hl5 => ?_)
    refine seqQ rfl rfl (yMove (v := .slice _ _ _) rfl rfl) ?_
    -- e slot 7: builtin append t5 t6 : [63, 63]
    refine seqE rfl rfl (stepApp (c := eFH) (Own.lit (c := eFH) (l := []) (base := H.size) hB5 hg5 (by simp)) rfl Try.underlying63 elem_eFH rfl (by omega) rfl rfl rfl (hA.ext hx5) (by simp; omega) hx5.size ?_)
    intro v H1 hown hgrew
    obtain ⟨A2, c2, rfl, -⟩ := hown.form
    refine seqQ rfl rfl (yAssign (v := .slice _ _ _) rfl rfl) ?_
    refine seqNil ?_
    refine hF5 _ _ ?_; clear hF5
    -- ret
    refine wpRet (fin1 (v := .slice _ _ _) rfl rfl ?_)
    exact ⟨by simpa using hown, hgrew.ext hx5 (by rintro g e; obtain rfl := Option.some.inj e; exact hg5)⟩
set_option maxRecDepth 100000 in
theorem xor1 (b : UInt8) : bits .xor .u8 (b.toNat : Int) 1 = ((b ^^^ 1).toNat : Int) := by
  have := u8_xor_nat b.toNat 1 b.toNat_lt (by omega)
  rw [UInt8.toNat_xor]
  exact this
/-- A packet's copy, as its fate says. -/
def arr (p : UInt8) (d : List UInt8) : List UInt8 := if p.toNat % 8 = 7 ∧ 0 < d.length then d.set (p.toNat / 8 % d.length) (d.getD (p.toNat / 8 % d.length) 0 ^^^ 1) else d
set_option maxRecDepth 100000 in
theorem arr_len (p : UInt8) (d : List UInt8) : (arr p d).length = d.length := by
  unfold arr
  split
  · rw [List.length_set]
  · rfl
set_option maxRecDepth 100000 in
theorem arriving_c (A : Option Addr) (c : Nat) (l : List UInt8) (p : UInt8) (H : Heap) (hA : Rd eByte H A l) (hl : l.length ≤ 1000000000) :
    CallsH Try.prog 84 [.slice A l.length c, .int .u8 (p.toNat : Int)] H fun v H' => Own eByte 5 H' H.size v (arr p l) ∧ Ext H H' := by
  have hp := p.toNat_lt
  refine callsH_of Try.func84 rfl Try.ntmps84 (Nat.le_of_ble_eq_true rfl) ?_
  refine wpSeq fun F1 hF1 => ?_
  refine wpRegion ?_
  refine seqQ rfl rfl (yAssign (v := .slice _ _ _) rfl rfl) ?_
  refine seqNil ?_
  refine hF1 _ _ ?_; clear hF1
  refine wpSeq fun F2 hF2 => ?_
  refine wpRegion ?_
  refine seqQ rfl rfl (yMove (v := .slice _ _ _) rfl rfl) ?_
  -- e slot 8: call F40<bytes.Clone> t7
  refine seqE rfl rfl (stepCall rfl Try.call40 rfl ?_)
  refine (bClone_c A c l H hA hl).mono ?_
  rintro v H1 ⟨o1, x1⟩
  obtain ⟨A1, c1, rfl, -⟩ := o1.form
  refine seqQ rfl rfl (yAssign (v := .slice _ _ _) rfl rfl) ?_
  refine seqNil ?_
  refine hF2 _ _ ?_; clear hF2
  refine wpSeq fun F3 hF3 => ?_
  refine wpSeq fun F4 hF4 => ?_
  refine wpRegion ?_
  refine seqQ rfl rfl (yMove (v := .slice _ _ _) rfl rfl) ?_
  refine seqQ rfl rfl (yLen rfl Try.underlying58 rfl) ?_
  refine seqQ rfl rfl (yAssign (v := .int _ _) rfl rfl) ?_
  refine seqNil ?_
  refine hF4 _ _ ?_; clear hF4
  refine wpSeq fun F5 hF5 => ?_
  refine wpRegion ?_
  refine seqQ rfl rfl (yMove (v := .int _ _) rfl rfl) ?_
  refine seqQ rfl rfl (yRem rfl rfl rfl (by omega)) ?_
  refine seqQ rfl rfl (yEql rfl rfl rfl) ?_
  -- guard t14
  by_cases h7 : p.toNat % 8 = 7
  · skip
    rw [decide_eq_true (show (p.toNat : Int) % 8 = 7 by omega)]
    refine seqQ rfl rfl (yMove (v := .bool true) rfl rfl) ?_
    refine seqQ rfl rfl (yMove (v := .int _ _) rfl rfl) ?_
    refine seqQ rfl rfl (yGtr rfl rfl rfl) ?_
    refine seqQ rfl rfl (yPickT (v := .bool _) rfl rfl rfl) ?_
    refine seqNil ?_
    refine hF5 _ _ ?_; clear hF5
    -- if t17
    refine wpIf rfl (fun h0 => ?_) (fun h0 => ?_)
    · skip
      have h0 : 0 < l.length := by omega
      have hk : p.toNat / 8 % l.length < l.length := Nat.mod_lt _ h0
      have hz : (p.toNat : Int) / 8 % (l.length : Int) = ((p.toNat / 8 % l.length : Nat) : Int) := by rw [Int.natCast_emod, Int.natCast_ediv]; rfl
      obtain ⟨q, rfl, hq⟩ := (Own.rd o1).2.at1 hk
      refine wpRegion ?_
      refine seqQ rfl rfl (yMove (v := .slice _ _ _) rfl rfl) ?_
      refine seqQ rfl rfl (yMove (v := .int _ _) rfl rfl) ?_
      refine seqQ rfl rfl (yConv rfl Try.underlying5 Try.underlying3 rfl (IntWalk.i64_in _ (by omega))) ?_
      refine seqQ rfl rfl (yQuo rfl rfl rfl (by omega)) ?_
      refine seqQ rfl rfl (yMove (v := .int _ _) rfl rfl) ?_
      refine seqQ rfl rfl (yRem rfl rfl rfl (by omega)) ?_
      refine seqQ rfl rfl (yIdx1 rfl Try.underlying58 Try.sizeOf5 rfl rfl hz hk) ?_
      refine seqQ rfl rfl (yLoad rfl Try.underlying5 rfl rfl hq) ?_
      refine seqQ rfl rfl (yXorE rfl rfl rfl (xor1 _)) ?_
      refine seqQ rfl rfl (yIdx1 rfl Try.underlying58 Try.sizeOf5 rfl rfl hz hk) ?_
      -- e slot None: store T5 t27 t26
      refine seqE0 rfl rfl (stepStoreOwn (z := (l[p.toNat / 8 % l.length] ^^^ 1)) o1 rfl Try.sizeOf5 rfl rfl rfl rfl hk ?_)
      intro H2 o2 hK2
      refine seqNil ?_
      refine hF3 _ _ ?_; clear hF3
      refine wpSeq fun F6 hF6 => ?_
      refine wpRegion ?_
      refine seqQ rfl rfl (yMove (v := .slice _ _ _) rfl rfl) ?_
      refine seqQ rfl rfl (yAssign (v := .slice _ _ _) rfl rfl) ?_
      refine seqNil ?_
      refine hF6 _ _ ?_; clear hF6
      -- ret
      refine wpRet (fin1 (v := .slice _ _ _) rfl rfl ?_)
      have hb := (o1.lt q.block rfl).1
      refine ⟨?_, x1.mine hK2 (by simp; omega)⟩
      unfold arr
      rw [if_pos ⟨h7, h0⟩, List.getD_eq_getElem?_getD, List.getElem?_eq_getElem hk]
      exact o2
    · skip
      refine wpSkip ?_
      refine hF3 _ _ ?_; clear hF3
      refine wpSeq fun F7 hF7 => ?_
      refine wpRegion ?_
      refine seqQ rfl rfl (yMove (v := .slice _ _ _) rfl rfl) ?_
      refine seqQ rfl rfl (yAssign (v := .slice _ _ _) rfl rfl) ?_
      refine seqNil ?_
      refine hF7 _ _ ?_; clear hF7
      -- ret
      refine wpRet (fin1 (v := .slice _ _ _) rfl rfl ?_)
      unfold arr
      rw [if_neg (by omega)]
      exact ⟨o1, x1⟩
  · skip
    rw [decide_eq_false (show ¬ (p.toNat : Int) % 8 = 7 by omega)]
    refine seqQ rfl rfl (yMove (v := .bool false) rfl rfl) ?_
    refine seqU rfl rfl ?_
    refine seqU rfl rfl ?_
    refine seqQ rfl rfl (yPickF (v := .bool _) rfl rfl rfl) ?_
    refine seqNil ?_
    refine hF5 _ _ ?_; clear hF5
    -- if t17
    refine wpF rfl ?_
    refine wpSkip ?_
    refine hF3 _ _ ?_; clear hF3
    refine wpSeq fun F8 hF8 => ?_
    refine wpRegion ?_
    refine seqQ rfl rfl (yMove (v := .slice _ _ _) rfl rfl) ?_
    refine seqQ rfl rfl (yAssign (v := .slice _ _ _) rfl rfl) ?_
    refine seqNil ?_
    refine hF8 _ _ ?_; clear hF8
    -- ret
    refine wpRet (fin1 (v := .slice _ _ _) rfl rfl ?_)
    unfold arr
    rw [if_neg (by omega)]
    exact ⟨o1, x1⟩
/-- A link that a call has made: its copies lie in a row of their own. -/
structure LkOwn (H : Heap) (base : Nat) (l : LH) : Prop where
  pat : RdM eByte (Value.slice l.FA l.fly.length l.fc).ownBlock.toList H l.PA l.pat
  own : Own eFH 98 H base (.slice l.FA l.fly.length l.fc) l.fly
  data : ∀ x ∈ l.fly, RdM eByte (Value.slice l.FA l.fly.length l.fc).ownBlock.toList H x.A x.data
  lowP : ∀ p, l.PA = some p → base ≤ p.block
  lowD : ∀ x ∈ l.fly, ∀ p, x.A = some p → base ≤ p.block
  dcap : ∀ x ∈ l.fly, x.data.length ≤ x.cap
set_option maxRecDepth 100000 in
theorem LkOwn.rd {H : Heap} {base : Nat} {l : LH} (h : LkOwn H base l) : LkRd H l := ⟨h.pat.rd, (Own.rd h.own).2, fun x hx => (h.data x hx).rd, by
  obtain ⟨_, _, e, hl, -⟩ := h.own.form
  cases e
  exact hl⟩
set_option maxRecDepth 100000 in
theorem LkOwn.ext {H H' : Heap} {base : Nat} {l : LH} (h : LkOwn H base l) (hx : Ext H H') : LkOwn H' base l := ⟨h.pat.tr (Tr.of_ext hx _), h.own.ext hx, fun x hm => (h.data x hm).tr (Tr.of_ext hx _), h.lowP, h.lowD, h.dcap⟩
set_option maxRecDepth 100000 in
theorem RdM.keepO {α : Type} {c : El α} {M : List Nat} {H H' : Heap} {A : Option Addr} {l : List α} {g : Nat} (h : RdM c M H A l) (hK : Keep [g] H H') (hg : ∀ p, A = some p → p.block ≠ g) : RdM c M H' A l := fun hn => by
  obtain ⟨p, e, hm, hc⟩ := h hn
  exact ⟨p, e, hm, fun j u hu => hK.cell (hc j u hu) (by rw [block_of_add]; simpa using hg p e)⟩
set_option maxRecDepth 100000 in
theorem LkOwn.keep {H H' : Heap} {base g : Nat} {l : LH} (h : LkOwn H base l) (hK : Keep [g] H H') (hg : g < base) : LkOwn H' base l :=
  ⟨h.pat.keepO hK (fun p e => by have := h.lowP p e; omega), h.own.keep hK (fun b hb => by have := (h.own.lt b hb).1; simp; omega), fun x hm => (h.data x hm).keepO hK (fun p e => by have := h.lowD x hm p e; omega), h.lowP, h.lowD, h.dcap⟩
set_option maxRecDepth 100000 in
theorem ownB_list {A : Option Addr} {n m c : Nat} : (Value.slice A n c).ownBlock.toList = (Value.slice A m c).ownBlock.toList := by cases A <;> rfl
set_option maxRecDepth 100000 in
theorem copied_c (l : LH) (H : Heap) (h : LkRd H l) (hs : LkSm l) :
    CallsH Try.prog 54 [.agg (lkC l).toArray] H fun v H' => ∃ l' : LH, v = .agg (lkC l').toArray ∧ l'.lk = l.lk ∧ LkOwn H' H.size l' ∧ Ext H H' := by
  have s1 := hs.pat
  have s2 := hs.fly
  refine callsH_of Try.func54 rfl Try.ntmps54 (Nat.le_of_ble_eq_true rfl) ?_
  refine wpSeq fun F1 hF1 => ?_
  refine wpRegion ?_
  refine seqN rfl rfl (nBoxA rfl rfl) (fun g1 H1 hx1 hB1 hg1 hl1 => ?_)
  refine seqN rfl rfl (nAlloc rfl Try.zeroValue65 rfl) (fun g2 H2 hx2 hB2 hg2 hl2 => ?_)
  refine seqNil ?_
  refine hF1 _ _ ?_; clear hF1
  refine wpSeq fun F2 hF2 => ?_
  -- region 1
  have hE := hx1.trans hx2
  have hB12 := hB1.ext hx2
  have sz1 := hx1.size
  have sz2 := hx2.size
  refine wpRegionD Try_mixed [.q, .q, .e, .q, .q, .e, .q, .e, .q, .e] 7 [0, 1, 3, 0, 8, 31, 31, 127, 255, 511] [] (by kernel_rfl) _ rfl [0, 1, 2, 3, 4, 5, 6] rfl (by simp) ?_
  refine lexQ rfl rfl rfl rfl (fun H hM => (yFieldAddr rfl Try.underlying65 rfl Try.sizeOf58 rfl rfl)) ?_
  refine lexQ rfl rfl rfl rfl (fun H hM => (yLoad rfl Try.underlying58 rfl rfl (hM.ext.cell (hB12.cell rfl)))) ?_
  -- e slot 6: call F40<bytes.Clone> t5
  refine lexX0 rfl rfl rfl rfl rfl (by simp) (fun hM6 => stepCall rfl Try.call40 rfl ?_)
  refine (bClone_c l.PA l.pc l.pat H2 (h.pat.ext hE) (by omega)).mono ?_
  rintro v H6 ⟨o6, x6⟩
  obtain ⟨PA, pc, rfl, hpc, -⟩ := o6.form
  refine ⟨x6, fun _ => ?_⟩
  refine lexQ rfl rfl rfl rfl (fun H hM => (yFieldAddr rfl Try.underlying65 rfl Try.sizeOf63 rfl rfl)) ?_
  refine lexQ rfl rfl rfl rfl (fun H hM => (yLoad rfl Try.underlying63 rfl rfl (hM.ext.cell (hB12.cell rfl)))) ?_
  -- e slot 9: call F69<slices.Clone[[]farandole/link.Flight,farandole/link.Flight]> t8
  refine lexX0 rfl rfl rfl rfl rfl (by simp) (fun hM9 => stepCall rfl Try.call69 rfl ?_)
  refine (fClone_c l.FA l.fc l.fly H6 ((h.fly.ext hE).ext x6) (by omega)).mono ?_
  rintro v H9 ⟨o9, x9⟩
  obtain ⟨FA, fc, rfl, hfc, -⟩ := o9.form
  refine ⟨x9, fun _ => ?_⟩
  have sz6 := x6.size
  have sz9 := x9.size
  refine lexQ rfl rfl rfl rfl (fun H hM => (yFieldAddr rfl Try.underlying65 rfl Try.sizeOf58 rfl rfl)) ?_
  -- tail
  refine lexNil0 rfl (fun hM => ?_)
  -- e slot None: store T58 t10 t6
  refine seqE0 rfl rfl (stepStore rfl Try.sizeOf58 rfl rfl rfl rfl ((hB12.ext x6).ext x9) (Nat.le_of_ble_eq_true rfl) ?_)
  intro Ha hBa hKa
  refine seqQ rfl rfl (yFieldAddr rfl Try.underlying65 rfl Try.sizeOf63 rfl rfl) ?_
  -- e slot None: store T63 t11 t9
  refine seqE0 rfl rfl (stepStore rfl Try.sizeOf63 rfl rfl rfl rfl hBa (Nat.le_of_ble_eq_true rfl) ?_)
  intro Hb hBb hKb
  have xb : Ext H Hb := (((hE.trans x6).trans x9).mine hKa (by simp; omega)).mine hKb (by simp; omega)
  have g12 : g1 ≠ g2 := by have := hB1.lt; omega
  replace hB2 := (((hB2.ext x6).ext x9).keep hKa (by simp; exact g12.symm)).keep hKb (by simp; exact g12.symm)
  have hb9 := o9.lt
  have hg1 : g1 < H2.size := hB12.lt
  obtain ⟨M, hM⟩ : ∃ M, M = g2 :: (Value.slice FA l.fly.length fc).ownBlock.toList := ⟨_, rfl⟩
  have hMb : ∀ b ∈ M, b < H9.size ∧ (b = g2 ∨ H6.size ≤ b) := fun b hb => by
    rw [hM, List.mem_cons, Option.mem_toList] at hb
    rcases hb with rfl | hb
    · omega
    · have := hb9 b hb
      omega
  have rp : RdM eByte M Hb PA l.pat := RdM.of (((Own.rd (o6.ext x9)).2.keep hKa (fun p e hm => by have h1 := (o6.lt p.block (by rw [e]; rfl)).1; simp at hm; omega)).keep hKb (fun p e hm => by have h1 := (o6.lt p.block (by rw [e]; rfl)).1; simp at hm; omega)) (fun p e hm => by
    have h1 := o6.lt p.block (by rw [e]; rfl)
    have h2 := hMb _ hm
    omega)
  have hlP : ∀ p, PA = some p → H.size ≤ p.block := fun p e => by have h1 := (o6.lt p.block (by rw [e]; rfl)).1; omega
  have ob := (o9.keep hKa (fun b hb => by have := (hb9 b hb).1; simp; omega)).keep hKb (fun b hb => by have := (hb9 b hb).1; simp; omega)
  replace hBb : Blk Hb g1 (lkC ⟨PA, pc, l.pat, l.now, l.sent, FA, fc, l.fly⟩) 65 := hBb
  have sa := hKa.size
  have sb := hKb.size
  clear hBa hKa hKb o9 o6 x6 x9 hE hB12 hB1 hx1 hx2
  refine seqNil ?_
  refine hF2 _ _ ?_; clear hF2
  refine wpSeq fun F3 hF3 => ?_
  refine wpSeq fun F4 hF4 => ?_
  refine wpRegion ?_
  refine seqQ rfl rfl (yFieldAddr rfl Try.underlying65 rfl Try.sizeOf63 rfl rfl) ?_
  refine seqQ rfl rfl (yLoad rfl Try.underlying63 rfl rfl (hBb.cell rfl)) ?_
  refine seqQ rfl rfl (yLen rfl Try.underlying63 rfl) ?_
  refine seqQ rfl rfl (yMove (v := .int _ _) rfl rfl) ?_
  refine seqNil ?_
  refine hF4 _ _ ?_; clear hF4
  -- loop
  refine wpBlock ?_
  refine wpLoopS [3, 15, 16, 17, 18, 19, 20, 21, 22, 23, 24, 25, 26, 27, 28, 29, 30] (fun k : Nat => [(15, .int .i64 k)]) (fun k H' => k ≤ l.fly.length ∧ Ext H H' ∧ H9.size ≤ H'.size ∧ RdM eByte M H' PA l.pat ∧ Blk H' g2 [.slice none 0 0, .int .i64 0, .int .i64 0, .slice none 0 0] 65 ∧ Blk H' g1 (lkC ⟨PA, pc, l.pat, l.now, l.sent, FA, fc, l.fly⟩) 65 ∧ ∃ fl : List FH, fl.map FH.fl = l.fly.map FH.fl ∧ Own eFH 98 H' H6.size (.slice FA l.fly.length fc) fl ∧ (∀ j x, j < k → fl[j]? = some x → RdM eByte M H' x.A x.data ∧ (∀ p, x.A = some p → H.size ≤ p.block) ∧ x.data.length ≤ x.cap) ∧ ∀ j, k ≤ j → fl[j]? = l.fly[j]?) (fun k => l.fly.length - k) 0 ⟨rfl, trivial⟩ ⟨Nat.zero_le _, xb, by omega, rp, hB2, hBb, l.fly, rfl, ob, fun j x hj => absurd hj (by omega), fun j _ => rfl⟩ ?_
  clear xb rp hB2 hBb ob
  rintro k J Hk ⟨hk, hE, hs9, rp, h2, h1, fl, hfl, ow, hnew, hold⟩
  have hfll : fl.length = l.fly.length := by have := congrArg List.length hfl; simpa using this
  refine wpSeq fun F5 hF5 => ?_
  refine wpRegion ?_
  refine seqQ rfl rfl (yLss rfl rfl rfl) ?_
  refine seqNil ?_
  refine hF5 _ _ ?_; clear hF5
  refine wpSeq fun F6 hF6 => ?_
  -- if t16
  refine wpIf rfl (fun hlt => ?_) (fun hlt => ?_)
  · skip
    dsimp only at hlt
    have hk : k < l.fly.length := by omega
    have hkf : k < fl.length := by omega
    have ek : fl[k] = l.fly[k] := by
      have := hold k (Nat.le_refl _)
      rw [List.getElem?_eq_getElem hk, List.getElem?_eq_getElem hkf] at this
      exact Option.some.inj this
    obtain ⟨q, eq, hq⟩ := (Own.rd ow).2.at hkf
    have hqb : H6.size ≤ q.block ∧ q.block < H9.size := hb9 q.block (by rw [eq]; rfl)
    have hqM : q.block ∈ M := by rw [hM, eq]; simp [Value.ownBlock]
    have s2k := hs.data l.fly[k] (List.getElem_mem hk)
    refine wpSkip ?_
    refine hF6 _ _ ?_; clear hF6
    refine wpSeq fun F7 hF7 => ?_
    refine wpBlock ?_
    refine wpSeq fun F8 hF8 => ?_
    refine wpRegion ?_
    refine seqQ rfl rfl (yMove (v := .int _ _) rfl rfl) ?_
    refine seqQ rfl rfl (yAssign (v := .int _ _) rfl rfl) ?_
    refine seqNil ?_
    refine hF8 _ _ ?_; clear hF8
    -- region 5
    refine wpRegionD Try_mixed [.q, .q, .q, .q, .q, .q, .q, .q, .q, .e, .q, .q, .e] 10 [0, 1, 0, 0, 8, 0, 56, 120, 248, 504, 1023, 2047, 4095] [] (by kernel_rfl) _ rfl [0, 1, 2, 3, 4, 5, 6, 7, 8, 9] rfl (by simp) ?_
    refine lexQ rfl rfl rfl rfl (fun H hM => (yFieldAddr rfl Try.underlying65 rfl Try.sizeOf63 rfl rfl)) ?_
    refine lexQ rfl rfl rfl rfl (fun H hM => (yLoad rfl Try.underlying63 rfl rfl (hM.ext.cell (h1.cell rfl)))) ?_
    refine lexQ rfl rfl rfl rfl (fun H hM => (yMove (v := .int _ _) rfl rfl)) ?_
    refine lexQ rfl rfl rfl rfl (fun H hM => (yFieldAddr rfl Try.underlying65 rfl Try.sizeOf63 rfl rfl)) ?_
    refine lexQ rfl rfl rfl rfl (fun H hM => (yLoad rfl Try.underlying63 rfl rfl (hM.ext.cell (h1.cell rfl)))) ?_
    refine lexQ rfl rfl rfl rfl (fun H hM => (yMove (v := .int _ _) rfl rfl)) ?_
    refine lexQ rfl rfl rfl rfl (fun H hM => (yIdxP rfl Try.underlying63 Try.sizeOf98 rfl rfl eq rfl hk)) ?_
    refine lexQ rfl rfl rfl rfl (fun H hM => (yFieldAddr rfl Try.underlying98 rfl Try.sizeOf58 rfl rfl)) ?_
    refine lexQ rfl rfl rfl rfl (fun H hM => (yLoad rfl Try.underlying58 rfl rfl (hM.ext.cell (hq 1 _ rfl)))) ?_
    -- e slot 27: call F40<bytes.Clone> t26
    rw [ek]
    refine lexX0 rfl rfl rfl rfl rfl (by simp) (fun hM27 => stepCall rfl Try.call40 rfl ?_)
    refine (bClone_c _ _ _ Hk ((h.data _ (List.getElem_mem hk)).ext hE) (by omega)).mono ?_
    rintro v H5 ⟨o5, x5⟩
    obtain ⟨DA, dc, rfl, hdc, -⟩ := o5.form
    have sz5 := x5.size
    refine ⟨x5, fun _ => ?_⟩
    -- tail
    refine lexNil0 rfl (fun hM => ?_)
    refine seqQ rfl rfl (yIdxP rfl Try.underlying63 Try.sizeOf98 rfl rfl eq rfl hk) ?_
    refine seqQ rfl rfl (yFieldAddr rfl Try.underlying98 rfl Try.sizeOf58 rfl rfl) ?_
    -- e slot None: store T58 t29 t27
    have ow5 := ow.ext x5
    rw [eq] at ow5
    refine seqE0 rfl rfl (stepStoreElt (c := eFH) (j := 1) (⟨l.fly[k].due, DA, dc, l.fly[k].data⟩ : FH) ow5 rfl Try.sizeOf58 rfl rfl rfl rfl hkf (by decide) (by rw [ek]; rfl) ?_)
    intro H4 o4 hK4
    rw [← eq] at o4
    refine seqNil ?_
    refine hF7 _ _ ?_; clear hF7
    refine wpRegion ?_
    refine seqQ rfl rfl (yAdd rfl rfl rfl (by unfold In64; omega)) ?_
    refine seqQ rfl rfl (yMove (v := .int _ _) rfl rfl) ?_
    refine seqNil ?_
    -- end loop
    refine loopEnd (k + 1) (by repeat (first | (with_reducible exact Agree.refl _ _) | refine Agree.upd ?_ rfl | refine Agree.over ?_ rfl)) (by omega) ⟨rfl, trivial⟩ ⟨hk, (hE.trans x5).mine hK4 (by simp; omega), by have := hK4.size; omega, (rp.tr (Tr.of_ext x5 _)).tr (Tr.store hK4 hqM), (h2.ext x5).keep hK4 (by simp; omega), (h1.ext x5).keep hK4 (by simp; omega), fl.set k ⟨l.fly[k].due, DA, dc, l.fly[k].data⟩, ?_, o4, ?_, ?_⟩
    · rw [List.map_set, hfl]
      apply List.ext_getElem?
      intro j
      rw [List.getElem?_set]
      split
      · rename_i e
        subst e
        simp [hk, FH.fl]
      · rfl
    · intro j x hj hx
      rw [List.getElem?_set] at hx
      split at hx
      · obtain rfl := Option.some.inj hx
        have hHk := hE.size
        refine ⟨?_, fun p e => by have h1 := (o5.lt p.block (by rw [show DA = some p from e]; rfl)).1; omega, hdc⟩
        exact ((RdM.of (Own.rd o5).2 (fun p e hm => by
          have h1 := (o5.lt p.block (by rw [e]; rfl)).1
          have h2 := (hMb _ hm).1
          omega) : RdM eByte M H5 DA l.fly[k].data)).tr (Tr.store hK4 hqM)
      · exact ⟨((hnew j x (by omega) hx).1.tr (Tr.of_ext x5 _)).tr (Tr.store hK4 hqM), (hnew j x (by omega) hx).2⟩
    · intro j hj
      rw [List.getElem?_set_ne (by omega)]
      exact hold j (by omega)
  · skip
    dsimp only at hlt
    obtain rfl : k = l.fly.length := by omega
    refine wpExit ?_
    refine hF3 _ _ ?_; clear hF3
    refine wpSeq fun F9 hF9 => ?_
    refine wpRegion ?_
    refine seqQ rfl rfl (yLoadB h1 rfl Try.underlying65 rfl Try.sizeOf65 rfl) ?_
    -- e slot None: store T65 t2 t31
    refine seqE0 rfl rfl (stepStoreB rfl (by kernel_rfl) rfl rfl rfl h2 rfl ?_)
    intro H4 h4 hK4
    refine seqNil ?_
    refine hF9 _ _ ?_; clear hF9
    -- ret
    refine wpRet (finR1 rfl (resC Try.underlying65 rfl (by kernel_rfl) rfl h4) ?_)
    have hlc : lkC ⟨PA, pc, l.pat, l.now, l.sent, FA, fc, l.fly⟩ = lkC ⟨PA, pc, l.pat, l.now, l.sent, FA, fc, fl⟩ := by simp only [lkC, hfll]
    have hkM : ∀ {A : Option Addr} {d : List UInt8}, RdM eByte M Hk A d → RdM eByte (Value.slice FA fl.length fc).ownBlock.toList H4 A d := fun h0 => (h0.tr (Tr.store hK4 (by rw [hM]; simp))).tr (Tr.sub _ (fun b hb => by rw [hM, List.mem_cons]; exact .inr (by rw [ownB_list (m := fl.length)]; exact hb)))
    refine ⟨⟨PA, pc, l.pat, l.now, l.sent, FA, fc, fl⟩, by rw [hlc], by unfold LH.lk; rw [hfl], ⟨hkM rp, ?_, fun x hx => ?_, hlP, fun x hx => ?_, fun x hx => ?_⟩, hE.mine hK4 (by simp; omega)⟩
    · show Own eFH _ H4 H.size (.slice FA fl.length fc) fl
      rw [hfll]
      exact (ow.keep hK4 (fun b hb => by have := (hb9 b hb).1; simp; omega)).mono (by omega)
    · obtain ⟨j, hj, rfl⟩ := List.getElem_of_mem hx
      dsimp only at hj
      exact hkM (hnew j _ (by omega) (List.getElem?_eq_getElem hj)).1
    · obtain ⟨j, hj, rfl⟩ := List.getElem_of_mem hx
      dsimp only at hj
      exact (hnew j _ (by omega) (List.getElem?_eq_getElem hj)).2.1
    · obtain ⟨j, hj, rfl⟩ := List.getElem_of_mem hx
      dsimp only at hj
      exact (hnew j _ (by omega) (List.getElem?_eq_getElem hj)).2.2
end Go.Proofs.Ytcfnmklbkhibgaa
