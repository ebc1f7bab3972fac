/- Package link: insertion of a copy. -/
import Derived.Test.YtcfnmklbkhibgaaL3
namespace Go.Proofs.Ytcfnmklbkhibgaa
open Go.RowKit

set_option maxRecDepth 100000 in
theorem overlaps_fh {H : Heap} {a b i j la ca lb cb : Nat} {xs ys : List Value} {Ta Tb : TypeId} (hA : Blk H a xs Ta) (hB : Blk H b ys Tb) (hab : a ≠ b) (hbs : ys ≠ []) (w : World) (hw : w.heap = H) :
    (callFunc 100 #[.slice (some ⟨a, i, none⟩) la ca, .slice (some ⟨b, j, none⟩) lb cb]).run Try.prog w = .ok (.value (.bool false)) w :=
  run_overlaps (tR := 4) Try.func100 (by kernel_rfl) (by kernel_rfl) (by kernel_rfl) (by kernel_rfl) Try.underlying63 Try.sizeOf98 hA hB hab hbs w hw
set_option maxRecDepth 100000 in
theorem insert_fh (v : Value) (l : List FH) (i : Nat) (x : FH) (gv : Nat) (base : Nat) (H : Heap) (hb : base ≤ H.size) (hown : Own eFH 98 H base v l) (hV : Blk H gv (eFH.F x) 98) (hne : v.ownBlock ≠ some gv) (hi : i ≤ l.length) (hl : l.length ≤ 1000000) :
    CallsH Try.prog 83 [v, .int .i64 i, .slice (some ⟨gv, 0, none⟩) 1 1] H fun v' H' => Own eFH 98 H' base v' (l.take i ++ x :: l.drop i) ∧ Grew H v H' v' := by
  obtain ⟨A, cap, rfl, hlc, hrd, hbb⟩ := hown.form
  have rV : Rd eFH H (some ⟨gv, 0, none⟩) [x] := Blk.rd (by simpa using hV)
  have hF : ∀ y : FH, (eFH.F y).length = 2 := fun y => eFH.len y
  have h2 : ∀ z : List FH, (z.flatMap eFH.F).length = z.length * 2 := fun z => eFH.flat_len z
  refine callsH_of Try.func83 rfl Try.ntmps83 (Nat.le_of_ble_eq_true rfl) ?_
  refine wpSeq fun F1 hF1 => ?_
  refine wpRegion ?_
  refine seqQ rfl rfl (yAssign (v := .slice _ _ _) rfl rfl) ?_
  refine seqNil ?_
  refine hF1 _ _ ?_; clear hF1
  refine wpSeq fun F2 hF2 => ?_
  refine wpRegion ?_
  refine seqQ rfl rfl (yMove (v := .slice _ _ _) rfl rfl) ?_
  refine seqQ rfl rfl (yMove (v := .int _ _) rfl rfl) ?_
  refine seqQ rfl rfl (ySliceL rfl Try.underlying63 Try.sizeOf98 rfl rfl rfl hi) ?_
  refine seqNil ?_
  refine hF2 _ _ ?_; clear hF2
  refine wpSeq fun F3 hF3 => ?_
  refine wpRegion ?_
  refine seqQ rfl rfl (yMove (v := .slice _ _ _) rfl rfl) ?_
  refine seqQ rfl rfl (yLen rfl Try.underlying63 rfl) ?_
  refine seqQ rfl rfl (yAssign (v := .int _ _) rfl rfl) ?_
  refine seqNil ?_
  refine hF3 _ _ ?_; clear hF3
  refine wpSeq fun F4 hF4 => ?_
  refine wpSeq fun F5 hF5 => ?_
  refine wpRegion ?_
  refine seqQ rfl rfl (yMove (v := .int _ _) rfl rfl) ?_
  refine seqQ rfl rfl (yEql rfl rfl rfl) ?_
  refine seqNil ?_
  refine hF5 _ _ ?_; clear hF5
  -- if t16
  refine wpF rfl ?_
  refine wpSkip ?_
  refine hF4 _ _ ?_; clear hF4
  refine wpSeq fun F6 hF6 => ?_
  refine wpRegion ?_
  refine seqQ rfl rfl (yMove (v := .slice _ _ _) rfl rfl) ?_
  refine seqQ rfl rfl (yLen rfl Try.underlying63 rfl) ?_
  refine seqQ rfl rfl (yAssign (v := .int _ _) rfl rfl) ?_
  refine seqNil ?_
  refine hF6 _ _ ?_; clear hF6
  refine wpSeq fun F7 hF7 => ?_
  refine wpSeq fun F8 hF8 => ?_
  refine wpRegion ?_
  refine seqQ rfl rfl (yMove (v := .int _ _) rfl rfl) ?_
  refine seqQ rfl rfl (yMove (v := .int _ _) rfl rfl) ?_
  refine seqQ rfl rfl (yEql rfl rfl rfl) ?_
  refine seqNil ?_
  refine hF8 _ _ ?_; clear hF8
  -- if t22
  refine wpIf rfl (fun hin => ?_) (fun hin => ?_)
  · skip
    have hin : i = l.length := by omega
    refine wpSeq fun F9 hF9 => ?_
    refine wpRegion ?_
    refine seqQ rfl rfl (yMove (v := .slice _ _ _) rfl rfl) ?_
    refine seqQ rfl rfl (yMove (v := .slice _ _ _) rfl rfl) ?_
    -- e slot 25: builtin append t23 t24 : [63, 63]
    refine seqE rfl rfl (stepApp (c := eFH) hown rfl Try.underlying63 elem_eFH rfl (by omega) rfl rfl rfl rV (by simp; omega) hb ?_)
    intro v2 H2 o2 g2
    obtain ⟨A2, c2, rfl, -⟩ := o2.form
    refine seqQ rfl rfl (yAssign (v := .slice _ _ _) rfl rfl) ?_
    refine seqNil ?_
    refine hF9 _ _ ?_; clear hF9
    -- ret
    refine wpRet (fin1 (v := .slice _ _ _) rfl rfl ?_)
    rw [hin, List.take_length, List.drop_length]
    exact ⟨o2, g2⟩
  · skip
    have hin : i < l.length := by omega
    obtain ⟨p, rfl, -⟩ := hrd.at (k := i) hin
    obtain ⟨hp1, hp2, hp3⟩ := hbb p rfl
    obtain ⟨g, rfl⟩ : ∃ g, p = ⟨g, 0, none⟩ := ⟨p.block, hp3⟩
    have hgb : base ≤ g := hp1
    have hgl : g < H.size := hp2
    have nmin : ∀ a b : Nat, a ≤ b → Nat.min a b = a := fun a b h => Nat.min_eq_left h
    have nmin2 : ∀ a b : Nat, b ≤ a → Nat.min a b = b := fun a b h => Nat.min_eq_right h
    have hgv : g ≠ gv := fun e => hne (by rw [← e]; rfl)
    obtain ⟨cur, hB, hcl, htk, -, -, -, hcm⟩ := hown.raw
    have hcl : cur.length = cap * 2 := hcl
    have htk : cur.take (l.length * 2) = l.flatMap eFH.F := htk
    have hflat : l.flatMap eFH.F = (l.take i).flatMap eFH.F ++ (l.drop i).flatMap eFH.F := by rw [← List.flatMap_append, List.take_append_drop]
    have l1 : ((l.take i).flatMap eFH.F).length = i * 2 := by rw [h2, List.length_take]; omega
    have l2 : ((l.drop i).flatMap eFH.F).length = (l.length - i) * 2 := by rw [h2, List.length_drop]
    have d0 : ∀ q j, (⟨q, 0, none⟩ : Addr).add j = ⟨q, j, none⟩ := add_head
    have hcells : ∀ j u, (l.flatMap eFH.F)[j]? = some u → cellH H ((⟨g, 0, none⟩ : Addr).add j) = some u := by
      obtain ⟨q, e, hc⟩ := hrd (List.ne_nil_of_length_pos (by omega))
      obtain rfl := Option.some.inj e
      exact hc
    have hdr : ∀ j u, ((l.drop i).flatMap eFH.F)[j]? = some u → cellH H (((⟨g, 0, none⟩ : Addr).add (i * 2)).add j) = some u := fun j u hu => by
      rw [add_of_add]
      refine hcells _ u ?_
      rw [hflat, List.getElem?_append_right (by omega), l1, show i * 2 + j - i * 2 = j by omega]
      exact hu
    have hcap : In64 (cap : Int) := by unfold maxLen at hcm; unfold In64; omega
    have hone := fun (z : List FH) => eFH.flat_one z
    have hxl : (eFH.F x).length = 2 := hF x
    have hxo : ∀ u ∈ eFH.F x, u.oneCell' = true := eFH.one x
    have hxc : ∀ H', Blk H' gv (eFH.F x) 98 → eFH.F x ≠ [] → ∃ a, (some ⟨gv, 0, none⟩ : Option Addr) = some a ∧ ∀ j v, (eFH.F x)[j]? = some v → cellH H' (a.add j) = some v := fun H' hB _ => ⟨_, rfl, fun j u hu => hB.cell hu⟩
    have fin : ∀ (g' : Nat) (cap' : Nat) (c0 : List Value) (H' : Heap), Blk H' g' c0 98 → c0.length = cap' * 2 → l.length + 1 ≤ cap' → cap' ≤ maxLen → base ≤ g' → c0.take ((l.length + 1) * 2) = (l.take i).flatMap eFH.F ++ (eFH.F x ++ (l.drop i).flatMap eFH.F) → Own eFH 98 H' base (.slice (some ⟨g', 0, none⟩) (l.length + 1) cap') (l.take i ++ x :: l.drop i) := by
      intro g' cap' c0 H' h1 h3 h4 h5 h6 h7
      have hlen : (l.take i ++ x :: l.drop i).length = l.length + 1 := by simp; omega
      have := Own.ofRaw (c := eFH) (l := l.take i ++ x :: l.drop i) (base := base) (cap := cap') h1 h3 (by rw [hlen]; show c0.take ((l.length + 1) * 2) = _; rw [h7]; simp) h6 (by omega) h5
      rwa [hlen] at this
    refine wpSkip ?_
    refine hF7 _ _ ?_; clear hF7
    refine wpSeq fun F10 hF10 => ?_
    refine wpSeq fun F11 hF11 => ?_
    refine wpRegion ?_
    refine seqQ rfl rfl (yMove (v := .int _ _) rfl rfl) ?_
    refine seqQ rfl rfl (yMove (v := .int _ _) rfl rfl) ?_
    refine seqQ rfl rfl (yAdd rfl rfl rfl (by unfold In64; omega)) ?_
    refine seqQ rfl rfl (yMove (v := .slice _ _ _) rfl rfl) ?_
    refine seqQ rfl rfl (yCap rfl Try.underlying63 rfl) ?_
    refine seqQ rfl rfl (yGtr rfl rfl rfl) ?_
    refine seqNil ?_
    refine hF11 _ _ ?_; clear hF11
    -- if t31
    refine wpIf rfl (fun hroom => ?_) (fun hroom => ?_)
    · skip
      have hroom : cap < l.length + 1 := by omega
      have hkz : ((l.length : Int) + ((1 : Nat) : Int)) - (i : Int) = ((l.length + 1 - i : Nat) : Int) := by omega
      refine wpSeq fun F12 hF12 => ?_
      refine wpRegion ?_
      refine seqQ rfl rfl (yMove (v := .slice _ _ _) rfl rfl) ?_
      refine seqQ rfl rfl (yMove (v := .int _ _) rfl rfl) ?_
      refine seqQ rfl rfl (ySliceH rfl Try.underlying63 Try.sizeOf98 rfl rfl rfl (by omega)) ?_
      refine seqQ rfl rfl (yMove (v := .int _ _) rfl rfl) ?_
      refine seqQ rfl rfl (yMove (v := .int _ _) rfl rfl) ?_
      refine seqQ rfl rfl (yAdd rfl rfl rfl (by unfold In64; omega)) ?_
      refine seqQ rfl rfl (yMove (v := .int _ _) rfl rfl) ?_
      refine seqQ rfl rfl (ySub rfl rfl rfl (by unfold In64; omega)) ?_
      -- e slot 40: builtin append t34 t39 : [63, 3]
      refine seqE rfl rfl (stepAppZ (c := eFH) rfl Try.underlying63 Try.underlying3 elem_eFH rfl (by omega) rfl rfl hkz l1 (fun _ => ⟨_, rfl, fun j u hu => hcells j u (by rw [hflat, List.getElem?_append_left (List.getElem?_eq_some_iff.1 hu).1]; exact hu)⟩) (by omega) (by omega) (by omega) ?_)
      intro g' cap' c0 H2 hx2 hg2 hl2 hB2 hc0 ht0 hle hm2
      have hc0 : c0.length = cap' * 2 := hc0
      have ht0 : c0.take (i * 2) = (l.take i).flatMap eFH.F := ht0
      refine seqQ rfl rfl (yAssign (v := .slice _ _ _) rfl rfl) ?_
      refine seqNil ?_
      refine hF12 _ _ ?_; clear hF12
      refine wpSeq fun F13 hF13 => ?_
      refine wpRegion ?_
      refine seqQ rfl rfl (yMove (v := .slice _ _ _) rfl rfl) ?_
      refine seqQ rfl rfl (yMove (v := .int _ _) rfl rfl) ?_
      refine seqQ rfl rfl (ySliceN rfl Try.underlying63 Try.sizeOf98 rfl rfl rfl (by omega) (by omega)) ?_
      refine seqQ rfl rfl (yMove (v := .slice _ _ _) rfl rfl) ?_
      -- e slot 45: builtin copy t43 t44 : [63, 63]
      have hgg : gv ≠ g' := fun e => by have := hV.lt; omega
      refine seqE rfl rfl (stepCopy (sz := 2) (cs := eFH.F x) rfl Try.underlying63 Try.sizeOf98 rfl rfl hB2 (by rw [hxl, nmin _ _ (by omega)]) (hxc _ (hV.ext hx2)) (by omega) hxo ?_)
      intro H3 hB3 hK3
      have l3 : (c0.take (i * 2) ++ eFH.F x ++ c0.drop (i * 2 + (eFH.F x).length)).length = cap' * 2 := by simp only [List.length_append, List.length_take, List.length_drop]; omega
      have t3 : (c0.take (i * 2) ++ eFH.F x ++ c0.drop (i * 2 + (eFH.F x).length)).take ((i + 1) * 2) = (l.take i).flatMap eFH.F ++ eFH.F x := by
        rw [ht0, List.take_left' (by rw [List.length_append, l1, hxl]; omega)]
      generalize c0.take (i * 2) ++ eFH.F x ++ c0.drop (i * 2 + (eFH.F x).length) = c1 at hB3 l3 t3
      refine seqNil ?_
      refine hF13 _ _ ?_; clear hF13
      refine wpSeq fun F14 hF14 => ?_
      refine wpRegionD Try_mixed [.q, .q, .q, .q, .q, .q, .q, .q, .e] 8 [0, 0, 0, 6, 15, 0, 0, 96, 255] [] (by kernel_rfl) _ rfl [0, 1, 2, 3, 4, 5, 6, 7] rfl (by simp) ?_
      refine lexQ rfl rfl rfl rfl (fun H hM => (yMove (v := .slice _ _ _) rfl rfl)) ?_
      refine lexQ rfl rfl rfl rfl (fun H hM => (yMove (v := .int _ _) rfl rfl)) ?_
      refine lexQ rfl rfl rfl rfl (fun H hM => (yMove (v := .int _ _) rfl rfl)) ?_
      refine lexQ rfl rfl rfl rfl (fun H hM => (yAdd rfl rfl rfl (by unfold In64; omega))) ?_
      refine lexQ rfl rfl rfl rfl (fun H hM => (ySliceN rfl Try.underlying63 Try.sizeOf98 rfl rfl (show (i : Int) + ((1 : Nat) : Int) = ((i + 1 : Nat) : Int) by omega) (by omega) (by omega))) ?_
      refine lexQ rfl rfl rfl rfl (fun H hM => (yMove (v := .slice _ _ _) rfl rfl)) ?_
      refine lexQ rfl rfl rfl rfl (fun H hM => (yMove (v := .int _ _) rfl rfl)) ?_
      refine lexQ rfl rfl rfl rfl (fun H hM => (ySliceN rfl Try.underlying63 Try.sizeOf98 rfl rfl rfl (by omega) (by omega))) ?_
      -- tail
      refine lexNil0 rfl (fun hM => ?_)
      -- e slot 54: builtin copy t50 t53 : [63, 63]
      have hgg2 : g ≠ g' := fun e => by omega
      refine seqE rfl rfl (stepCopy (sz := 2) (cs := (l.drop i).flatMap eFH.F) rfl Try.underlying63 Try.sizeOf98 rfl rfl hB3 (by rw [l2, nmin2 _ _ (show i + (l.length + 1 - i) - (i + 1) ≤ l.length - i by omega)]; omega) (fun _ => ⟨_, rfl, fun j u hu => hK3.cell (hx2.cell (hdr j u hu)) (by simp [block_of_add, hgg2])⟩) (by omega) (hone _) ?_)
      intro H4 hB4 hK4
      refine seqNil ?_
      refine hF14 _ _ ?_; clear hF14
      refine wpSeq fun F15 hF15 => ?_
      refine wpRegion ?_
      refine seqQ rfl rfl (yMove (v := .slice _ _ _) rfl rfl) ?_
      refine seqQ rfl rfl (yAssign (v := .slice _ _ _) rfl rfl) ?_
      refine seqNil ?_
      refine hF15 _ _ ?_; clear hF15
      -- ret
      refine wpRet (fin1 (v := .slice _ _ _) rfl rfl ?_)
      rw [show i + (l.length + 1 - i) = l.length + 1 by omega]
      refine ⟨fin g' cap' _ H4 hB4 ?_ (by omega) hm2 (by omega) ?_, ?_, ?_⟩
      · simp only [List.length_append, List.length_take, List.length_drop]; omega
      · rw [t3, List.take_left' (by simp only [List.length_append]; omega), List.append_assoc]
      · exact (Ext.mine (Ext.mine hx2 hK3 (by simp; omega)) hK4 (by simp; omega)).keep _
      · intro b hb'
        simp [Value.ownBlock] at hb'
        exact .inr (by omega)
    · skip
      have hroom : l.length + 1 ≤ cap := by omega
      refine wpSkip ?_
      refine hF10 _ _ ?_; clear hF10
      refine wpSeq fun F16 hF16 => ?_
      refine wpRegion ?_
      refine seqQ rfl rfl (yMove (v := .slice _ _ _) rfl rfl) ?_
      refine seqQ rfl rfl (yMove (v := .int _ _) rfl rfl) ?_
      refine seqQ rfl rfl (yMove (v := .int _ _) rfl rfl) ?_
      refine seqQ rfl rfl (yAdd rfl rfl rfl (by unfold In64; omega)) ?_
      refine seqQ rfl rfl (ySliceH rfl Try.underlying63 Try.sizeOf98 rfl rfl (show (l.length : Int) + ((1 : Nat) : Int) = ((l.length + 1 : Nat) : Int) by omega) hroom) ?_
      refine seqQ rfl rfl (yAssign (v := .slice _ _ _) rfl rfl) ?_
      refine seqNil ?_
      refine hF16 _ _ ?_; clear hF16
      refine wpSeq fun F17 hF17 => ?_
      refine wpSeq fun F18 hF18 => ?_
      refine wpRegion ?_
      refine seqQ rfl rfl (yMove (v := .slice _ _ _) rfl rfl) ?_
      refine seqQ rfl rfl (yMove (v := .slice _ _ _) rfl rfl) ?_
      refine seqQ rfl rfl (yMove (v := .int _ _) rfl rfl) ?_
      refine seqQ rfl rfl (yMove (v := .int _ _) rfl rfl) ?_
      refine seqQ rfl rfl (yAdd rfl rfl rfl (by unfold In64; omega)) ?_
      refine seqQ rfl rfl (ySliceN rfl Try.underlying63 Try.sizeOf98 rfl rfl (show (i : Int) + ((1 : Nat) : Int) = ((i + 1 : Nat) : Int) by omega) (by omega) (by omega)) ?_
      -- e slot 67: call F100<slices.overlaps[farandole/link.Flight]> t61 t66
      refine seqE rfl rfl (stepY (yCallX rfl rfl (fun w hw => by rw [add_head]; exact overlaps_fh hV hB (Ne.symm hgv) (List.ne_nil_of_length_pos (by omega)) w hw)) ?_)
      refine seqQ rfl rfl (yNot rfl rfl) ?_
      refine seqNil ?_
      refine hF18 _ _ ?_; clear hF18
      -- if t68
      refine wpT rfl ?_
      refine wpSeq fun F19 hF19 => ?_
      refine wpRegionD Try_mixed [.q, .q, .q, .q, .q, .q, .q, .q, .e] 8 [0, 0, 0, 6, 15, 0, 0, 96, 255] [] (by kernel_rfl) _ rfl [0, 1, 2, 3, 4, 5, 6, 7] rfl (by simp) ?_
      refine lexQ rfl rfl rfl rfl (fun H hM => (yMove (v := .slice _ _ _) rfl rfl)) ?_
      refine lexQ rfl rfl rfl rfl (fun H hM => (yMove (v := .int _ _) rfl rfl)) ?_
      refine lexQ rfl rfl rfl rfl (fun H hM => (yMove (v := .int _ _) rfl rfl)) ?_
      refine lexQ rfl rfl rfl rfl (fun H hM => (yAdd rfl rfl rfl (by unfold In64; omega))) ?_
      refine lexQ rfl rfl rfl rfl (fun H hM => (ySliceN rfl Try.underlying63 Try.sizeOf98 rfl rfl (show (i : Int) + ((1 : Nat) : Int) = ((i + 1 : Nat) : Int) by omega) (by omega) (by omega))) ?_
      refine lexQ rfl rfl rfl rfl (fun H hM => (yMove (v := .slice _ _ _) rfl rfl)) ?_
      refine lexQ rfl rfl rfl rfl (fun H hM => (yMove (v := .int _ _) rfl rfl)) ?_
      refine lexQ rfl rfl rfl rfl (fun H hM => (ySliceN rfl Try.underlying63 Try.sizeOf98 rfl rfl rfl (by omega) (by omega))) ?_
      -- tail
      refine lexNil0 rfl (fun hM => ?_)
      -- e slot 77: builtin copy t73 t76 : [63, 63]
      refine seqE rfl rfl (stepCopy (sz := 2) (cs := (l.drop i).flatMap eFH.F) rfl Try.underlying63 Try.sizeOf98 rfl rfl hB (by rw [l2, nmin2 _ _ (show l.length + 1 - (i + 1) ≤ l.length + 1 - i by omega)]; omega) (fun _ => ⟨_, rfl, hdr⟩) (by omega) (hone _) ?_)
      intro H3 hB3 hK3
      have l3 : (cur.take ((i + 1) * 2) ++ (l.drop i).flatMap eFH.F ++ cur.drop ((i + 1) * 2 + ((l.drop i).flatMap eFH.F).length)).length = cap * 2 := by simp only [List.length_append, List.length_take, List.length_drop]; omega
      have t3 : (cur.take ((i + 1) * 2) ++ (l.drop i).flatMap eFH.F ++ cur.drop ((i + 1) * 2 + ((l.drop i).flatMap eFH.F).length)).take (i * 2) = (l.take i).flatMap eFH.F := by
        rw [List.append_assoc, List.take_append_of_le_length (by rw [List.length_take]; omega), List.take_take, Nat.min_eq_left (by omega)]
        have := congrArg (List.take (i * 2)) htk
        rw [List.take_take, Nat.min_eq_left (by omega), hflat, List.take_left' l1] at this
        exact this
      have t4 : ((cur.take ((i + 1) * 2) ++ (l.drop i).flatMap eFH.F ++ cur.drop ((i + 1) * 2 + ((l.drop i).flatMap eFH.F).length)).drop ((i + 1) * 2)).take ((l.length - i) * 2) = (l.drop i).flatMap eFH.F := by
        rw [List.append_assoc, List.drop_left' (by rw [List.length_take]; omega), List.take_left' l2]
      generalize cur.take ((i + 1) * 2) ++ (l.drop i).flatMap eFH.F ++ cur.drop ((i + 1) * 2 + ((l.drop i).flatMap eFH.F).length) = c1 at hB3 l3 t3 t4
      refine seqNil ?_
      refine hF19 _ _ ?_; clear hF19
      refine wpSeq fun F20 hF20 => ?_
      refine wpRegion ?_
      refine seqQ rfl rfl (yMove (v := .slice _ _ _) rfl rfl) ?_
      refine seqQ rfl rfl (yMove (v := .int _ _) rfl rfl) ?_
      refine seqQ rfl rfl (ySliceN rfl Try.underlying63 Try.sizeOf98 rfl rfl rfl (by omega) (by omega)) ?_
      refine seqQ rfl rfl (yMove (v := .slice _ _ _) rfl rfl) ?_
      -- e slot 82: builtin copy t80 t81 : [63, 63]
      refine seqE rfl rfl (stepCopy (sz := 2) (cs := eFH.F x) rfl Try.underlying63 Try.sizeOf98 rfl rfl hB3 (by rw [hxl, nmin _ _ (by omega)]) (hxc _ (hV.keep hK3 (by simp; exact Ne.symm hgv))) (by omega) hxo ?_)
      intro H4 hB4 hK4
      refine seqNil ?_
      refine hF20 _ _ ?_; clear hF20
      refine wpSeq fun F21 hF21 => ?_
      refine wpRegion ?_
      refine seqQ rfl rfl (yMove (v := .slice _ _ _) rfl rfl) ?_
      refine seqQ rfl rfl (yAssign (v := .slice _ _ _) rfl rfl) ?_
      refine seqNil ?_
      refine hF21 _ _ ?_; clear hF21
      -- ret
      refine wpRet (fin1 (v := .slice _ _ _) rfl rfl ?_)
      refine ⟨fin g cap _ H4 hB4 ?_ hroom hcm hp1 ?_, ?_, ?_⟩
      · simp only [List.length_append, List.length_take, List.length_drop]; omega
      · rw [t3, hxl, show i * 2 + 2 = (i + 1) * 2 by omega, List.append_assoc, List.take_append, List.take_append, l1, hxl, List.take_of_length_le (l := (l.take i).flatMap eFH.F) (by rw [l1]; omega), List.take_of_length_le (l := eFH.F x) (by rw [hxl]; omega), show (l.length + 1) * 2 - i * 2 - 2 = (l.length - i) * 2 by omega, t4]
      · exact (hK3.trans hK4).mono (by simp [Value.ownBlock])
      · intro b hb'
        exact .inl hb'
end Go.Proofs.Ytcfnmklbkhibgaa
