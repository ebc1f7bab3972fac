/- Package link: New, Idle, Send. -/
import Derived.Test.YtcfnmklbkhibgaaL5
namespace Go.Proofs.Ytcfnmklbkhibgaa
open Go.RowKit

set_option maxRecDepth 100000 in
theorem new_c (A : Option Addr) (c : Nat) (p : List UInt8) (H : Heap) (hA : Rd eByte H A p) (hl : p.length ≤ 1000000000) :
    CallsH Try.prog 24 [.slice A p.length c] H fun v H' => ∃ L : LH, v = .tuple #[.agg (lkC L).toArray, .int .i64 (newL p).1] ∧ L.lk = (newL p).2 ∧ LkN H.size H' L ∧ Ext H H' := by
  refine callsH_of Try.func24 rfl Try.ntmps24 (Nat.le_of_ble_eq_true rfl) ?_
  refine wpSeq fun F1 hF1 => ?_
  refine wpRegion ?_
  refine seqN rfl rfl (nAlloc rfl Try.zeroValue65 rfl) (fun g2 H2 hx2 hB2 hg2 hl2 => ?_)
  refine seqQ rfl rfl (yAssign (v := .int _ _) rfl rfl) ?_
  refine seqNil ?_
  refine hF1 _ _ ?_; clear hF1
  refine wpSeq fun F2 hF2 => ?_
  refine wpSeq fun F3 hF3 => ?_
  refine wpRegion ?_
  refine seqQ rfl rfl (yMove (v := .slice _ _ _) rfl rfl) ?_
  refine seqQ rfl rfl (yLen rfl Try.underlying58 rfl) ?_
  refine seqQ rfl rfl (yGtr rfl rfl rfl) ?_
  refine seqNil ?_
  refine hF3 _ _ ?_; clear hF3
  -- if t6
  refine wpIf rfl (fun h2 => ?_) (fun h2 => ?_)
  · skip
    have e : newL p = (6, lk0) := if_pos (by omega)
    refine wpSeq fun F4 hF4 => ?_
    refine wpRegion ?_
    refine seqQ rfl rfl (yBuild (pl := [(0, 1), (1, 1), (2, 1), (3, 1)]) (vs := []) rfl Try.underlying65 Try.zeroValue65 rfl (by unfold Places; kernel_rfl) rfl rfl) ?_
    -- e slot None: store T65 t2 t7
    refine seqE0 rfl rfl (stepStoreB rfl (by kernel_rfl) rfl rfl rfl hB2 rfl ?_)
    intro H3 h3 hK3
    refine seqQ rfl rfl (yAssign (v := .int _ _) rfl rfl) ?_
    refine seqNil ?_
    refine hF4 _ _ ?_; clear hF4
    -- ret
    refine wpRet (finR2 rfl (resC Try.underlying65 rfl (by kernel_rfl) rfl h3) (resT (v := .int _ _) rfl) ?_)
    rw [e]
    exact ⟨lh0, rfl, rfl, lh0_n _ _, hx2.mine hK3 (by simp; omega)⟩
  · skip
    have e : newL p = (0, ⟨p, 0, 0, []⟩) := if_neg (by omega)
    refine wpSkip ?_
    refine hF2 _ _ ?_; clear hF2
    refine wpSeq fun F5 hF5 => ?_
    refine wpRegion ?_
    refine seqQ rfl rfl (yMove (v := .slice _ _ _) rfl rfl) ?_
    -- e slot 9: call F40<bytes.Clone> t8
    refine seqE rfl rfl (stepCall rfl Try.call40 rfl ?_)
    refine (bClone_c A c p H2 (hA.ext hx2) hl).mono ?_
    rintro v H3 ⟨o3, x3⟩
    obtain ⟨A3, c3, rfl, -⟩ := o3.form
    have s3 := x3.size
    have s2 := hx2.size
    refine seqQ rfl rfl (yBuild (pl := [(0, 1), (1, 1), (2, 1), (3, 1)]) (vs := [(0, .slice _ _ _)]) rfl Try.underlying65 Try.zeroValue65 rfl (by unfold Places; kernel_rfl) rfl rfl) ?_
    -- e slot None: store T65 t2 t10
    refine seqE0 rfl rfl (stepStoreB rfl (by kernel_rfl) rfl rfl rfl (hB2.ext x3) rfl ?_)
    intro H4 h4 hK4
    refine seqQ rfl rfl (yAssign (v := .int _ _) rfl rfl) ?_
    refine seqNil ?_
    refine hF5 _ _ ?_; clear hF5
    -- ret
    refine wpRet (finR2 rfl (resC Try.underlying65 rfl (by kernel_rfl) rfl h4) (resT (v := .int _ _) rfl) ?_)
    rw [e]
    refine ⟨⟨A3, c3, p, 0, 0, none, 0, []⟩, rfl, rfl, ⟨⟨(Own.rd o3).2.keep hK4 (fun q e => by have := (o3.lt q.block (by rw [e]; rfl)).1; simp; omega), Rd.nil _ _, (fun x hx => by cases hx), Nat.le_refl _⟩, (fun q e => by have := (o3.lt q.block (by rw [show A3 = some q from e]; rfl)).1; omega), (fun q e => by cases e), (fun x hx => by cases hx)⟩, (hx2.trans x3).mine hK4 (by simp; omega)⟩

set_option maxRecDepth 100000 in
theorem sendL_bad {l : Lk} {d : List UInt8} (h : ¬ ValidL l ∨ l.sent = 1099511627776) : sendL l d = (1, lk0) := if_pos h
set_option maxRecDepth 100000 in
theorem sendL_long {l : Lk} {d : List UInt8} (h : ¬ (¬ ValidL l ∨ l.sent = 1099511627776)) (h2 : 1000 < d.length) : sendL l d = (6, lk0) := by
  unfold sendL
  rw [if_neg h, if_pos h2]
set_option maxRecDepth 100000 in
theorem sendL_ok {l : Lk} {d : List UInt8} (h : ¬ (¬ ValidL l ∨ l.sent = 1099511627776)) (h2 : ¬ 1000 < d.length) : sendL l d = (0, { l with sent := l.sent + 1, fly := putAll l.now (arr (fate l) d) (delays (fate l)) l.fly }) := by
  unfold sendL
  rw [if_neg h, if_neg h2]
set_option maxRecDepth 100000 in
theorem LkRd.sm_eq {l l' : LH} (h : l'.lk = l.lk) : l'.pat = l.pat ∧ l'.now = l.now ∧ l'.sent = l.sent ∧ l'.fly.length = l.fly.length := by
  unfold LH.lk at h
  rw [Lk.eq_iff] at h
  obtain ⟨h1, h2, h3, h4⟩ := h
  have := congrArg List.length h4
  simp only [List.length_map] at this
  exact ⟨h1, h2, h3, this⟩
set_option maxRecDepth 100000 in
theorem map_due {l : List FH} {f : List Fl} (h : l.map FH.fl = f) (hs : f.Pairwise (fun a b => a.1 ≤ b.1)) : ∀ (i j : Nat) (hi : i < l.length) (hj : j < l.length), i ≤ j → l[i].due ≤ l[j].due := by
  intro i j hi hj hij
  subst h
  rcases Nat.lt_or_ge i j with h | h
  · have := (List.pairwise_iff_getElem.1 hs) i j (by simpa using hi) (by simpa using hj) h
    rw [List.getElem_map, List.getElem_map] at this
    exact this
  · obtain rfl : i = j := by omega
    exact Int.le_refl _
set_option maxRecDepth 100000 in
theorem map_ins {l : List FH} {f : List Fl} (h : l.map FH.fl = f) (hl : ¬ 300 ≤ f.length) (x : FH) (k : Nat) (hk : k ≤ l.length) (h1 : ∀ (j : Nat) (hj : j < l.length), j < k → l[j].due < x.due + 1) (h2 : ∀ (j : Nat) (hj : j < l.length), k ≤ j → x.due + 1 ≤ l[j].due) :
    (l.take k ++ x :: l.drop k).map FH.fl = insF f x.fl := by
  subst h
  have hlm : (l.map FH.fl).length = l.length := List.length_map ..
  obtain ⟨e1, e2⟩ := tw_take (fun f : Fl => decide (f.1 ≤ x.fl.1)) (l.map FH.fl) k (by omega) (fun j hj hjk => by
    have := h1 j (by omega) hjk
    simp only [List.getElem_map, FH.fl, decide_eq_true_eq]
    omega) (fun j hj hjk => by
    have := h2 j (by omega) (by omega)
    simp only [List.getElem_map, FH.fl, decide_eq_false_iff_not]
    omega)
  unfold insF
  rw [if_neg hl, e1, e2]
  simp [List.map_take, List.map_drop]
set_option maxRecDepth 100000 in
theorem send_c (l : LH) (A : Option Addr) (c : Nat) (d : List UInt8) (H : Heap) (h : LkRd H l) (hs : LkSm l) (hA : Rd eByte H A d) (hd : d.length ≤ 100000) :
    CallsH Try.prog 58 [.agg (lkC l).toArray, .slice A d.length c] H fun v H' => ∃ L : LH, v = .tuple #[.agg (lkC L).toArray, .int .i64 (sendL l.lk d).1] ∧ L.lk = (sendL l.lk d).2 ∧ LkN H.size H' L ∧ Ext H H' := by
  refine callsH_of Try.func58 rfl Try.ntmps58 (Nat.le_of_ble_eq_true rfl) ?_
  refine wpSeq fun F1 hF1 => ?_
  refine wpRegion ?_
  refine seqN rfl rfl (nBoxA rfl rfl) (fun g2 H2 hx2 hB2 hg2 hl2 => ?_)
  refine seqN rfl rfl (nAlloc rfl Try.zeroValue65 rfl) (fun g4 H4 hx4 hB4 hg4 hl4 => ?_)
  refine seqQ rfl rfl (yAssign (v := .int _ _) rfl rfl) ?_
  refine seqNil ?_
  refine hF1 _ _ ?_; clear hF1
  refine wpSeq fun F2 hF2 => ?_
  refine wpBlock ?_
  refine wpSeq fun F3 hF3 => ?_
  -- region 1
  have hE := hx2.trans hx4
  have s2 := hx2.size
  have s4 := hx4.size
  have h2 := hB2.ext hx4
  have h4 := hB4
  clear hx2 hx4 hB2 hB4
  refine wpRegion ?_
  refine seqQ rfl rfl (yLoadB h2 rfl Try.underlying65 rfl Try.sizeOf65 rfl) ?_
  -- e slot 15: call F53<farandole/link.Valid> t14
  refine seqE rfl rfl (stepCall rfl Try.call53 rfl ?_)
  refine (lValid_c l H4 (h.ext hE) hs).mono ?_
  rintro v H5 ⟨rfl, x5⟩
  replace h2 := h2.ext x5
  replace h4 := h4.ext x5
  have s5 := x5.size
  replace hE := hE.trans x5
  clear x5
  by_cases hbad : ¬ ValidL l.lk ∨ l.lk.sent = 1099511627776
  · skip
    have hend : ∀ H6, Keep [g4] H5 H6 → Ext H H6 := fun H6 hK => hE.mine hK (by simp; omega)
    by_cases hv : ValidL l.lk
    · skip
      rw [decide_eq_true hv]
      have hsent : l.sent = 1099511627776 := hbad.resolve_left (fun hn => hn hv)
      refine seqQ rfl rfl (yNot rfl rfl) ?_
      refine seqQ rfl rfl (yMove (v := .bool false) rfl rfl) ?_
      refine seqQ rfl rfl (yFieldAddr rfl Try.underlying65 rfl Try.sizeOf3 rfl rfl) ?_
      refine seqQ rfl rfl (yLoad rfl Try.underlying3 rfl rfl (h2.cell rfl)) ?_
      refine seqQ rfl rfl (yEql rfl rfl rfl) ?_
      refine seqQ rfl rfl (yPickF (v := .bool _) rfl rfl rfl) ?_
      refine seqQ rfl rfl (yAssign (v := .bool _) rfl rfl) ?_
      refine seqNil ?_
      refine hF3 _ _ ?_; clear hF3
      -- if t13
      rw [decide_eq_true hsent]
      refine wpT rfl ?_
      refine wpSeq fun F4 hF4 => ?_
      refine wpRegion ?_
      refine seqQ rfl rfl (yBuild (pl := [(0, 1), (1, 1), (2, 1), (3, 1)]) (vs := []) rfl Try.underlying65 Try.zeroValue65 rfl (by unfold Places; kernel_rfl) rfl rfl) ?_
      -- e slot None: store T65 t4 t22
      refine seqE0 rfl rfl (stepStoreB rfl (by kernel_rfl) rfl rfl rfl h4 rfl ?_)
      intro H6 h6 hK6
      refine seqQ rfl rfl (yAssign (v := .int _ _) rfl rfl) ?_
      refine seqNil ?_
      refine hF4 _ _ ?_; clear hF4
      -- ret
      refine wpRet (finR2 rfl (resC Try.underlying65 rfl (by kernel_rfl) rfl h6) (resT (v := .int _ _) rfl) ?_)
      rw [sendL_bad hbad]
      exact ⟨lh0, rfl, rfl, lh0_n _ _, hend _ hK6⟩
    · skip
      rw [decide_eq_false hv]
      refine seqQ rfl rfl (yNot rfl rfl) ?_
      refine seqQ rfl rfl (yMove (v := .bool true) rfl rfl) ?_
      refine seqU rfl rfl ?_
      refine seqU rfl rfl ?_
      refine seqU rfl rfl ?_
      refine seqQ rfl rfl (yPickT (v := .bool _) rfl rfl rfl) ?_
      refine seqQ rfl rfl (yAssign (v := .bool _) rfl rfl) ?_
      refine seqNil ?_
      refine hF3 _ _ ?_; clear hF3
      -- if t13
      refine wpT rfl ?_
      refine wpSeq fun F5 hF5 => ?_
      refine wpRegion ?_
      refine seqQ rfl rfl (yBuild (pl := [(0, 1), (1, 1), (2, 1), (3, 1)]) (vs := []) rfl Try.underlying65 Try.zeroValue65 rfl (by unfold Places; kernel_rfl) rfl rfl) ?_
      -- e slot None: store T65 t4 t22
      refine seqE0 rfl rfl (stepStoreB rfl (by kernel_rfl) rfl rfl rfl h4 rfl ?_)
      intro H6 h6 hK6
      refine seqQ rfl rfl (yAssign (v := .int _ _) rfl rfl) ?_
      refine seqNil ?_
      refine hF5 _ _ ?_; clear hF5
      -- ret
      refine wpRet (finR2 rfl (resC Try.underlying65 rfl (by kernel_rfl) rfl h6) (resT (v := .int _ _) rfl) ?_)
      rw [sendL_bad hbad]
      exact ⟨lh0, rfl, rfl, lh0_n _ _, hend _ hK6⟩
  · skip
    have hv : ValidL l.lk := Classical.byContradiction fun hn => hbad (.inl hn)
    have hsent : ¬ l.sent = 1099511627776 := fun e => hbad (.inr e)
    rw [decide_eq_true hv]
    refine seqQ rfl rfl (yNot rfl rfl) ?_
    refine seqQ rfl rfl (yMove (v := .bool false) rfl rfl) ?_
    refine seqQ rfl rfl (yFieldAddr rfl Try.underlying65 rfl Try.sizeOf3 rfl rfl) ?_
    refine seqQ rfl rfl (yLoad rfl Try.underlying3 rfl rfl (h2.cell rfl)) ?_
    refine seqQ rfl rfl (yEql rfl rfl rfl) ?_
    refine seqQ rfl rfl (yPickF (v := .bool _) rfl rfl rfl) ?_
    refine seqQ rfl rfl (yAssign (v := .bool _) rfl rfl) ?_
    refine seqNil ?_
    refine hF3 _ _ ?_; clear hF3
    -- if t13
    rw [decide_eq_false hsent]
    refine wpF rfl ?_
    refine wpSeq fun F6 hF6 => ?_
    refine wpRegion ?_
    refine seqQ rfl rfl (yMove (v := .slice _ _ _) rfl rfl) ?_
    refine seqQ rfl rfl (yLen rfl Try.underlying58 rfl) ?_
    refine seqQ rfl rfl (yGtr rfl rfl rfl) ?_
    refine seqQ rfl rfl (yAssign (v := .bool _) rfl rfl) ?_
    refine seqNil ?_
    refine hF6 _ _ ?_; clear hF6
    -- if t23
    refine wpIf rfl (fun hlong => ?_) (fun hlong => ?_)
    · skip
      refine wpSeq fun F7 hF7 => ?_
      refine wpRegion ?_
      refine seqQ rfl rfl (yBuild (pl := [(0, 1), (1, 1), (2, 1), (3, 1)]) (vs := []) rfl Try.underlying65 Try.zeroValue65 rfl (by unfold Places; kernel_rfl) rfl rfl) ?_
      -- e slot None: store T65 t4 t27
      refine seqE0 rfl rfl (stepStoreB rfl (by kernel_rfl) rfl rfl rfl h4 rfl ?_)
      intro H6 h6 hK6
      refine seqQ rfl rfl (yAssign (v := .int _ _) rfl rfl) ?_
      refine seqNil ?_
      refine hF7 _ _ ?_; clear hF7
      -- ret
      refine wpRet (finR2 rfl (resC Try.underlying65 rfl (by kernel_rfl) rfl h6) (resT (v := .int _ _) rfl) ?_)
      rw [sendL_long hbad (by omega)]
      exact ⟨lh0, rfl, rfl, lh0_n _ _, hE.mine hK6 (by simp; omega)⟩
    · skip
      obtain ⟨v1, ⟨v2, v3⟩, ⟨v4, v5⟩, -, -⟩ := id hv
      have v1 : l.pat.length ≤ 200 := v1
      have v2 : 0 ≤ l.now := v2
      have v3 : l.now ≤ 1099511627776 := v3
      have v4 : 0 ≤ l.sent := v4
      have v5 : l.sent ≤ 1099511627776 := v5
      have hgood := hv.good
      refine wpSkip ?_
      refine hF2 _ _ ?_; clear hF2
      refine wpSeq fun F8 hF8 => ?_
      refine wpRegion ?_
      refine seqQ rfl rfl (yLoadB h2 rfl Try.underlying65 rfl Try.sizeOf65 rfl) ?_
      -- e slot 29: call F54<farandole/link.copied> t28
      refine seqE rfl rfl (stepCall rfl Try.call54 rfl ?_)
      refine (copied_c l H5 (h.ext hE) hs).mono ?_
      rintro v H6 ⟨l1, rfl, hl1, ow, x6⟩
      obtain ⟨q1, q2, q3, q4⟩ := LkRd.sm_eq hl1
      have hb2 : g2 < H5.size := h2.lt
      have hb4 : g4 < H5.size := h4.lt
      replace h2 := h2.ext x6
      replace h4 := h4.ext x6
      replace hE := hE.trans x6
      -- e slot None: store T65 t2 t29
      refine seqE0 rfl rfl (stepStoreB rfl (by kernel_rfl) rfl rfl rfl h2 rfl ?_)
      intro H7 h2' hK7
      have hK7' : H5.size ≤ H7.size := by have := hK7.size; have := x6.size; omega
      replace h2 : Blk H7 g2 (lkC l1) 65 := h2'
      replace h4 := h4.keep hK7 (by simp; omega)
      replace hE := hE.mine hK7 (by simp; omega)
      replace ow := ow.keep hK7 hb2
      clear h2' hK7 x6
      refine seqNil ?_
      refine hF8 _ _ ?_; clear hF8
      refine wpSeq fun F9 hF9 => ?_
      refine wpRegion ?_
      refine seqQ rfl rfl (yAssign (v := .int _ _) rfl rfl) ?_
      refine seqNil ?_
      refine hF9 _ _ ?_; clear hF9
      refine wpSeq fun F10 hF10 => ?_
      refine wpSeq fun F11 hF11 => ?_
      refine wpRegion ?_
      refine seqQ rfl rfl (yFieldAddr rfl Try.underlying65 rfl Try.sizeOf58 rfl rfl) ?_
      refine seqQ rfl rfl (yLoad rfl Try.underlying58 rfl rfl (h2.cell rfl)) ?_
      refine seqQ rfl rfl (yLen rfl Try.underlying58 rfl) ?_
      refine seqQ rfl rfl (yAssign (v := .int _ _) rfl rfl) ?_
      refine seqNil ?_
      refine hF11 _ _ ?_; clear hF11
      refine wpSeq fun F12 hF12 => ?_
      refine wpRegion ?_
      refine seqQ rfl rfl (yMove (v := .int _ _) rfl rfl) ?_
      refine seqQ rfl rfl (yGtr rfl rfl rfl) ?_
      refine seqNil ?_
      refine hF12 _ _ ?_; clear hF12
      -- if t34
      obtain ⟨p, hp⟩ : ∃ p, p = fate l.lk := ⟨_, rfl⟩
      refine cutF [6, 35, 36, 37, 38, 39, 40, 41, 42] (fun _ : Unit => [(6, .int .u8 (p.toNat : Int))]) (fun _ H' => H' = H7) hF10 ?_ (fun hC => ?_)
      · skip
        rintro ⟨⟩ J1 H8 rfl
        refine wpSeq fun F13 hF13 => ?_
        refine wpRegion ?_
        refine seqQ rfl rfl (yFieldAddr rfl Try.underlying65 rfl Try.sizeOf3 rfl rfl) ?_
        refine seqQ rfl rfl (yLoad rfl Try.underlying3 rfl rfl (h2.cell rfl)) ?_
        refine seqQ rfl rfl (yAdd rfl rfl rfl (by unfold In64; omega)) ?_
        refine seqQ rfl rfl (yFieldAddr rfl Try.underlying65 rfl Try.sizeOf3 rfl rfl) ?_
        -- e slot None: store T3 t46 t45
        refine seqE0 rfl rfl (stepStore rfl Try.sizeOf3 rfl rfl rfl rfl h2 (Nat.le_of_ble_eq_true rfl) ?_)
        intro H9 h2' hK9
        have hK9' : H5.size ≤ H9.size := by have := hK9.size; omega
        replace h2 : Blk H9 g2 (lkC { l1 with sent := l1.sent + 1 }) 65 := h2'
        replace h4 := h4.keep hK9 (by simp; omega)
        replace hE := hE.mine hK9 (by simp; omega)
        replace ow := ow.keep hK9 hb2
        clear h2' hK9
        refine seqNil ?_
        refine hF13 _ _ ?_; clear hF13
        refine wpSeq fun F14 hF14 => ?_
        refine wpSeq fun F15 hF15 => ?_
        refine wpRegion ?_
        refine seqQ rfl rfl (yMove (v := .int _ _) rfl rfl) ?_
        -- e slot 48: call F80<farandole/link.Delays> t47
        refine seqE rfl rfl (stepCall rfl Try.call80 rfl ?_)
        refine (delays_c p H9).mono ?_
        rintro v Ha ⟨oD, xa⟩
        obtain ⟨DA, dc, rfl, -⟩ := oD.form
        have rD : RdM eInt (Value.slice l1.FA l1.fly.length l1.fc).ownBlock.toList Ha DA (delays p) := RdM.of (Own.rd oD).2 (fun q e hm => by
          have e1 := (oD.lt q.block (by rw [e]; rfl)).1
          rw [Option.mem_toList] at hm
          have e2 := (ow.own.lt _ hm).2
          omega)
        have xa' := xa
        have hE9 : H5.size ≤ H9.size := by have := hK9'; omega
        replace h2 := h2.ext xa
        replace h4 := h4.ext xa
        replace hE := hE.trans xa
        replace ow := ow.ext xa
        have hlowD : ∀ q, DA = some q → H5.size ≤ q.block := fun q e => by have e1 := (oD.lt q.block (by rw [e]; rfl)).1; omega
        have hdl := delays_len p
        have harr : (arr p d).length ≤ 1000 := by rw [arr_len]; omega
        clear oD xa
        refine seqQ rfl rfl (yLen rfl Try.underlying25 rfl) ?_
        refine seqQ rfl rfl (yMove (v := .int _ _) rfl rfl) ?_
        refine seqNil ?_
        refine hF15 _ _ ?_; clear hF15
        -- loop
        refine wpBlock ?_
        refine wpLoopS [9, 10, 11, 12, 50, 51, 52, 53, 54, 55, 56, 57, 58, 59, 60, 61, 62, 63, 64, 65, 66, 67, 68, 69, 70, 71, 72, 73, 74, 75, 76, 77, 78, 79, 80, 81] (fun k : Nat => [(50, .int .i64 k)]) (fun k H' => k ≤ (delays p).length ∧ Ext H H' ∧ H5.size ≤ H'.size ∧ Blk H' g4 [.slice none 0 0, .int .i64 0, .int .i64 0, .slice none 0 0] 65 ∧ ∃ l2 : LH, Blk H' g2 (lkC l2) 65 ∧ LkOwn H' H5.size l2 ∧ RdM eInt (Value.slice l2.FA l2.fly.length l2.fc).ownBlock.toList H' DA (delays p) ∧ l2.lk = { l.lk with sent := l.lk.sent + 1, fly := putAll l.lk.now (arr p d) ((delays p).take k) l.lk.fly }) (fun k => (delays p).length - k) 0 ⟨rfl, trivial⟩ ⟨Nat.zero_le _, hE, by have := xa'.size; have := hE9; omega, h4, { l1 with sent := l1.sent + 1 }, h2, ⟨ow.pat, ow.own, ow.data, ow.lowP, ow.lowD, ow.dcap⟩, rD, by
          have : ({ l1 with sent := l1.sent + 1 } : LH).lk = { l1.lk with sent := l1.lk.sent + 1 } := rfl
          rw [this, hl1]
          rfl⟩ ?_
        clear hE h4 h2 ow rD hl1 q1 q2 q3 q4
        rintro k J Hk ⟨hk, hE, hsk, h4, l2, h2, ow, rD, hlk⟩
        obtain ⟨q1, q2, q3, q4⟩ : l2.pat = l.pat ∧ l2.now = l.now ∧ l2.sent = l.sent + 1 ∧ l2.fly.map FH.fl = putAll l.lk.now (arr p d) ((delays p).take k) l.lk.fly := by
          have h0 := hlk
          unfold LH.lk at h0
          rw [Lk.eq_iff] at h0
          exact h0
        have hg := GoodF.putAll (now := l.lk.now) harr ((delays p).take k) hgood (fun t ht => delays_rng (List.mem_of_mem_take ht))
        have hnw : l.lk.now = l.now := rfl
        rw [← q4] at hg
        have hfl : l2.fly.length ≤ 300 := by have := hg.len; simpa using this
        refine wpSeq fun F16 hF16 => ?_
        refine wpRegion ?_
        refine seqQ rfl rfl (yLss rfl rfl rfl) ?_
        refine seqNil ?_
        refine hF16 _ _ ?_; clear hF16
        refine wpSeq fun F17 hF17 => ?_
        -- if t51
        refine wpIf rfl (fun hlt => ?_) (fun hlt => ?_)
        · skip
          have hk : k < (delays p).length := by omega
          have hdk := delays_rng (List.getElem_mem hk)
          obtain ⟨q, eq, hq⟩ := rD.rd.at1 hk
          refine wpSkip ?_
          refine hF17 _ _ ?_; clear hF17
          refine wpSeq fun F18 hF18 => ?_
          refine wpBlock ?_
          refine wpSeq fun F19 hF19 => ?_
          refine wpRegion ?_
          refine seqQ rfl rfl (yIdxP1 rfl Try.underlying25 Try.sizeOf3 rfl rfl eq rfl hk) ?_
          refine seqQ rfl rfl (yLoad rfl Try.underlying3 rfl rfl hq) ?_
          refine seqQ rfl rfl (yAssign (v := .int _ _) rfl rfl) ?_
          refine seqNil ?_
          refine hF19 _ _ ?_; clear hF19
          refine wpSeq fun F20 hF20 => ?_
          refine wpSeq fun F21 hF21 => ?_
          refine wpRegion ?_
          refine seqQ rfl rfl (yFieldAddr rfl Try.underlying65 rfl Try.sizeOf63 rfl rfl) ?_
          refine seqQ rfl rfl (yLoad rfl Try.underlying63 rfl rfl (h2.cell rfl)) ?_
          refine seqQ rfl rfl (yLen rfl Try.underlying63 rfl) ?_
          refine seqQ rfl rfl (yEql rfl rfl rfl) ?_
          refine seqNil ?_
          refine hF21 _ _ ?_; clear hF21
          -- if t57
          refine wpIf rfl (fun hfull => ?_) (fun hfull => ?_)
          · skip
            have hfull : l2.fly.length = 300 := by omega
            have hrest : putAll l.lk.now (arr p d) (delays p) l.lk.fly = putAll l.lk.now (arr p d) ((delays p).take k) l.lk.fly := by
              have e1 := putAll_app l.lk.now (arr p d) ((delays p).take k) ((delays p).drop k) l.lk.fly
              rw [List.take_append_drop] at e1
              rw [e1]
              exact putAll_full _ _ (by rw [← q4, List.length_map]; omega)
            refine wpExit ?_
            refine hF14 _ _ ?_; clear hF14
            refine wpSeq fun F22 hF22 => ?_
            refine wpRegion ?_
            refine seqQ rfl rfl (yLoadB h2 rfl Try.underlying65 rfl Try.sizeOf65 rfl) ?_
            -- e slot None: store T65 t4 t82
            refine seqE0 rfl rfl (stepStoreB rfl (by kernel_rfl) rfl rfl rfl h4 rfl ?_)
            intro Hz h4' hKz
            refine seqQ rfl rfl (yAssign (v := .int _ _) rfl rfl) ?_
            refine seqNil ?_
            refine hF22 _ _ ?_; clear hF22
            -- ret
            refine wpRet (finR2 rfl (resC Try.underlying65 rfl (by kernel_rfl) rfl h4') (resT (v := .int _ _) rfl) ?_)
            rw [sendL_ok hbad (by omega)]
            refine ⟨l2, rfl, ?_, ((ow.keep hKz (by omega)).n.mono (by omega)), hE.mine hKz (by simp; omega)⟩
            rw [hlk, ← hp, hrest]
          · skip
            have hfull : l2.fly.length < 300 := by omega
            refine wpSkip ?_
            refine hF20 _ _ ?_; clear hF20
            refine wpSeq fun F23 hF23 => ?_
            refine wpRegion ?_
            refine seqQ rfl rfl (yFieldAddr rfl Try.underlying65 rfl Try.sizeOf3 rfl rfl) ?_
            refine seqQ rfl rfl (yLoad rfl Try.underlying3 rfl rfl (h2.cell rfl)) ?_
            refine seqQ rfl rfl (yMove (v := .int _ _) rfl rfl) ?_
            refine seqQ rfl rfl (yAdd rfl rfl rfl (by unfold In64; rw [q2]; omega)) ?_
            refine seqQ rfl rfl (yAssign (v := .int _ _) rfl rfl) ?_
            refine seqNil ?_
            refine hF23 _ _ ?_; clear hF23
            refine wpSeq fun F24 hF24 => ?_
            refine wpRegion ?_
            refine seqQ rfl rfl (yFieldAddr rfl Try.underlying65 rfl Try.sizeOf63 rfl rfl) ?_
            refine seqQ rfl rfl (yLoad rfl Try.underlying63 rfl rfl (h2.cell rfl)) ?_
            refine seqQ rfl rfl (yMove (v := .int _ _) rfl rfl) ?_
            refine seqQ rfl rfl (yAdd rfl rfl rfl (by unfold In64; rw [q2]; omega)) ?_
            -- e slot 67: call F81<slices.BinarySearchFunc[[]farandole/link.Flight,farandole/link.Flight,int]> t64 t66 F82
            refine seqE rfl rfl (stepCall rfl Try.call81 rfl ?_)
            have hrngs : ∀ x ∈ l2.fly, l.now < x.due ∧ x.due ≤ l.now + 8 := fun x hx => by
              have := hg.rng x.fl (List.mem_map_of_mem hx)
              exact ⟨this.1, this.2.1⟩
            refine (bsF_c l2.FA l2.fc l2.fly (l2.now + (delays p)[k] + 1) Hk ow.rd.fly (by omega) (fun x hx => by have := hrngs x hx; unfold In64; rw [q2]; omega) (map_due rfl hg.srt)).mono ?_
            rintro v Hb ⟨z, b, rfl, hz, hz1, hz2, xb⟩
            replace h2 := h2.ext xb
            replace h4 := h4.ext xb
            replace hE := hE.trans xb
            replace ow := ow.ext xb
            replace rD := rD.tr (Tr.of_ext xb _)
            have sb := xb.size
            clear xb
            refine seqQ rfl rfl (yMove (v := .tuple _) rfl rfl) ?_
            refine seqQ rfl rfl (yExtract (v := .int _ _) rfl rfl rfl) ?_
            refine seqQ rfl rfl (yExtract (v := .bool _) rfl rfl rfl) ?_
            refine seqQ rfl rfl (yAssign (v := .int _ _) rfl rfl) ?_
            refine seqQ rfl rfl (yAssign (v := .bool _) rfl rfl) ?_
            refine seqNil ?_
            refine hF24 _ _ ?_; clear hF24
            -- region 17
            refine wpRegionD Try_mixed [.q, .q, .q, .q, .q, .q, .e, .q, .n, .e, .q, .e] 9 [0, 1, 0, 0, 0, 0, 48, 120, 248, 511, 1023, 2047] [] (by kernel_rfl) _ rfl [0, 1, 2, 3, 4, 5, 6, 7, 8] rfl (by simp) ?_
            refine lexQ rfl rfl rfl rfl (fun H hM => (yFieldAddr rfl Try.underlying65 rfl Try.sizeOf63 rfl rfl)) ?_
            refine lexQ rfl rfl rfl rfl (fun H hM => (yLoad rfl Try.underlying63 rfl rfl (hM.ext.cell (h2.cell rfl)))) ?_
            refine lexQ rfl rfl rfl rfl (fun H hM => (yMove (v := .int _ _) rfl rfl)) ?_
            refine lexQ rfl rfl rfl rfl (fun H hM => (yMove (v := .int _ _) rfl rfl)) ?_
            refine lexQ rfl rfl rfl rfl (fun H hM => (yMove (v := .slice _ _ _) rfl rfl)) ?_
            refine lexQ rfl rfl rfl rfl (fun H hM => (yMove (v := .int _ _) rfl rfl)) ?_
            -- e slot 76: call F84<farandole/link.arriving> t74 t75
            refine lexX rfl rfl rfl rfl (by simp) (fun H76 hX76 hM76 hN76 => stepCall rfl Try.call84 rfl ?_)
            refine (arriving_c A c d p H76 ((hA.ext hE).ext hX76) (by omega)).mono ?_
            rintro v Hc ⟨oc, xc⟩
            obtain ⟨CA, cc, rfl, hcc⟩ := oc.form
            refine ⟨xc, fun _ => ?_⟩
            refine lexQ rfl rfl rfl rfl (fun H hM => (yBuild (pl := [(0, 1), (1, 1)]) (vs := [(0, .int _ _), (1, .slice _ _ _)]) rfl Try.underlying98 Try.zeroValue98 rfl (by unfold Places; kernel_rfl) rfl rfl)) ?_
            refine lexNB rfl rfl rfl rfl (nBuildSliceN (vs := [.agg _]) rfl Try.underlying63 Try.sizeOf98 Try.zeroValue98 rfl rfl rfl rfl rfl) (fun g78 hg78 hne78 => ?_)
            -- tail
            refine lexNil (fun Hf hXf hMf hNf => ?_)
            have hB78 := NF.blk 8 hNf (.head _)
            have xf : Ext Hb Hf := (hX76.trans xc).trans hXf
            replace h2 := h2.ext xf
            replace h4 := h4.ext xf
            replace hE := hE.trans xf
            have hobl := fun b hb => (ow.own.lt b hb).2
            have s76 := hX76.size
            have oc' := oc.ext hXf
            have rC : RdM eByte (Value.slice l2.FA l2.fly.length l2.fc).ownBlock.toList Hf CA (arr p d) := RdM.of (Own.rd oc').2 (fun q e hm => by
              have e1 := (oc.lt q.block (by rw [e]; rfl)).1
              rw [Option.mem_toList] at hm
              have e2 := hobl _ hm
              omega)
            have hHb : H5.size ≤ Hb.size := by omega
            have hbase : H5.size ≤ Hf.size := by have := xf.size; omega
            replace ow := ow.ext xf
            replace rD := rD.tr (Tr.of_ext xf _)
            -- e slot 79: call F83<slices.Insert[[]farandole/link.Flight,farandole/link.Flight]> t71 t72 t78
            refine seqE rfl rfl (stepCall rfl Try.call83 rfl ?_)
            refine (insert_fh (.slice l2.FA l2.fly.length l2.fc) l2.fly z ⟨l2.now + (delays p)[k], CA, cc, arr p d⟩ g78 H5.size Hf hbase ow.own hB78 (fun e => by have := hobl _ e; omega) hz (by omega)).mono ?_
            rintro v Hg ⟨oi, gi⟩
            obtain ⟨FA', fc', rfl, -⟩ := oi.form
            have ob2 : ∀ b ∈ (Value.slice l2.FA l2.fly.length l2.fc).ownBlock.toList, H5.size ≤ b := fun b hb => by rw [Option.mem_toList] at hb; exact (ow.own.lt b hb).1
            have tr := Tr.grew gi []
            rw [List.append_nil, List.append_nil] at tr
            have h2g := h2.keep gi.1 (fun hm => by have := ob2 _ hm; omega)
            have h4g := h4.keep gi.1 (fun hm => by have := ob2 _ hm; omega)
            have hEg := hE.mine gi.1 (fun b hb => by have := ob2 _ hb; omega)
            have rDg := rD.tr tr
            have owg : LkOwn Hg H5.size { l2 with FA := FA', fc := fc', fly := l2.fly.take z ++ (⟨l2.now + (delays p)[k], CA, cc, arr p d⟩ : FH) :: l2.fly.drop z } := ⟨ow.pat.tr tr, oi, fun x hx => by
              rcases List.mem_append.1 hx with hx | hx
              · exact (ow.data x (List.mem_of_mem_take hx)).tr tr
              · rcases List.mem_cons.1 hx with rfl | hx
                · exact rC.tr tr
                · exact (ow.data x (List.mem_of_mem_drop hx)).tr tr, ow.lowP, fun x hx => by
              rcases List.mem_append.1 hx with hx | hx
              · exact ow.lowD x (List.mem_of_mem_take hx)
              · rcases List.mem_cons.1 hx with rfl | hx
                · intro q e
                  have e1 := (oc.lt q.block (by rw [show CA = some q from e]; rfl)).1
                  omega
                · exact ow.lowD x (List.mem_of_mem_drop hx), fun x hx => by
              rcases List.mem_append.1 hx with hx | hx
              · exact ow.dcap x (List.mem_of_mem_take hx)
              · rcases List.mem_cons.1 hx with rfl | hx
                · exact hcc.1
                · exact ow.dcap x (List.mem_of_mem_drop hx)⟩
            refine seqQ rfl rfl (yFieldAddr rfl Try.underlying65 rfl Try.sizeOf63 rfl rfl) ?_
            -- e slot None: store T63 t80 t79
            refine seqE0 rfl rfl (stepStore rfl Try.sizeOf63 rfl rfl rfl rfl h2g (Nat.le_of_ble_eq_true rfl) ?_)
            intro Hh h2' hKh
            replace h2' : Blk Hh g2 (lkC { l2 with FA := FA', fc := fc', fly := l2.fly.take z ++ (⟨l2.now + (delays p)[k], CA, cc, arr p d⟩ : FH) :: l2.fly.drop z }) 65 := h2'
            refine seqNil ?_
            refine hF18 _ _ ?_; clear hF18
            refine wpRegion ?_
            refine seqQ rfl rfl (yAdd rfl rfl rfl (by unfold In64; omega)) ?_
            refine seqQ rfl rfl (yMove (v := .int _ _) rfl rfl) ?_
            refine seqNil ?_
            -- end loop
            refine loopEnd (k + 1) (by repeat (first | (with_reducible exact Agree.refl _ _) | refine Agree.upd ?_ rfl | refine Agree.over ?_ rfl)) (by omega) ⟨rfl, trivial⟩ ⟨hk, hEg.mine hKh (by simp; omega), by have := gi.1.size; have := hKh.size; omega, h4g.keep hKh (by simp; omega), _, h2', owg.keep hKh (by omega), rDg.keepO hKh (fun q e => ?_), ?_⟩
            · have := hlowD q e
              omega
            · rw [Lk.eq_iff] at hlk ⊢
              refine ⟨hlk.1, hlk.2.1, hlk.2.2.1, ?_⟩
              show (l2.fly.take z ++ (⟨l2.now + (delays p)[k], CA, cc, arr p d⟩ : FH) :: l2.fly.drop z).map FH.fl = putAll l.lk.now (arr p d) ((delays p).take (k + 1)) l.lk.fly
              rw [map_ins q4 (by rw [← q4, List.length_map]; omega) _ z hz hz1 hz2, putAll_take hk]
              show insF _ (l2.now + (delays p)[k], arr p d) = _
              rw [q2]
              rfl
        · skip
          obtain rfl : k = (delays p).length := by omega
          rw [List.take_length] at hlk
          refine wpExit ?_
          refine hF14 _ _ ?_; clear hF14
          refine wpSeq fun F25 hF25 => ?_
          refine wpRegion ?_
          refine seqQ rfl rfl (yLoadB h2 rfl Try.underlying65 rfl Try.sizeOf65 rfl) ?_
          -- e slot None: store T65 t4 t82
          refine seqE0 rfl rfl (stepStoreB rfl (by kernel_rfl) rfl rfl rfl h4 rfl ?_)
          intro Hz h4' hKz
          refine seqQ rfl rfl (yAssign (v := .int _ _) rfl rfl) ?_
          refine seqNil ?_
          refine hF25 _ _ ?_; clear hF25
          -- ret
          refine wpRet (finR2 rfl (resC Try.underlying65 rfl (by kernel_rfl) rfl h4') (resT (v := .int _ _) rfl) ?_)
          rw [sendL_ok hbad (by omega)]
          refine ⟨l2, rfl, ?_, ((ow.keep hKz (by omega)).n.mono (by omega)), hE.mine hKz (by simp; omega)⟩
          rw [hlk, ← hp]
      · skip
        have q1l : l1.pat.length = l.pat.length := by rw [q1]
        by_cases h0 : l.pat.length = 0
        · skip
          refine wpIf rfl (fun hp0 => ?_) (fun hp0 => ?_)
          · skip
            omega
          · skip
            refine wpSkip ?_
            -- end cut
            have e : fate l.lk = 0 := if_pos h0
            exact hC () _ _ (by repeat (first | (with_reducible exact Agree.refl _ _) | refine Agree.upd ?_ rfl | refine Agree.over ?_ rfl)) ⟨by show Value.int _ _ = Value.int _ _; rw [hp, e]; rfl, trivial⟩ rfl
        · skip
          refine wpIf rfl (fun hp0 => ?_) (fun hp0 => ?_)
          · skip
            have hsl : l1.sent.toNat % l1.pat.length < l1.pat.length := Nat.mod_lt _ (by omega)
            obtain ⟨q, eq, hq⟩ := ow.pat.rd.at1 hsl
            have hz : l1.sent % (l1.pat.length : Int) = ((l1.sent.toNat % l1.pat.length : Nat) : Int) := by
              rw [Int.natCast_emod]
              congr 1
              omega
            refine wpRegionD Try_mixed [.q, .q, .q, .q, .q, .q, .q, .q, .q] 6 [0, 1, 0, 4, 0, 28, 63, 127, 255] [] (by kernel_rfl) _ rfl [0, 1, 2, 3, 4, 5] rfl (by simp) ?_
            refine lexQ rfl rfl rfl rfl (fun H hM => (yFieldAddr rfl Try.underlying65 rfl Try.sizeOf58 rfl rfl)) ?_
            refine lexQ rfl rfl rfl rfl (fun H hM => (yLoad rfl Try.underlying58 rfl rfl (hM.ext.cell (h2.cell rfl)))) ?_
            refine lexQ rfl rfl rfl rfl (fun H hM => (yFieldAddr rfl Try.underlying65 rfl Try.sizeOf3 rfl rfl)) ?_
            refine lexQ rfl rfl rfl rfl (fun H hM => (yLoad rfl Try.underlying3 rfl rfl (hM.ext.cell (h2.cell rfl)))) ?_
            refine lexQ rfl rfl rfl rfl (fun H hM => (yMove (v := .int _ _) rfl rfl)) ?_
            refine lexQ rfl rfl rfl rfl (fun H hM => (yRem rfl rfl rfl (by rw [q1, q3]; omega))) ?_
            -- tail
            refine lexNil0 rfl (fun hM => ?_)
            refine seqQ rfl rfl (yIdxP1 rfl Try.underlying58 Try.sizeOf5 rfl rfl eq hz hsl) ?_
            refine seqQ rfl rfl (yLoad rfl Try.underlying5 rfl rfl hq) ?_
            refine seqQ rfl rfl (yAssign (v := .int _ _) rfl rfl) ?_
            refine seqNil ?_
            -- end cut
            have e : fate l.lk = l1.pat[l1.sent.toNat % l1.pat.length] := by
              have e0 : fate l.lk = l.pat.getD (l.sent.toNat % l.pat.length) 0 := if_neg h0
              rw [e0, List.getD_eq_getElem?_getD]
              have e1 : l1.pat[l1.sent.toNat % l1.pat.length]? = some l1.pat[l1.sent.toNat % l1.pat.length] := List.getElem?_eq_getElem hsl
              rw [← q1, ← q3, e1]
              rfl
            exact hC () _ _ (by repeat (first | (with_reducible exact Agree.refl _ _) | refine Agree.upd ?_ rfl | refine Agree.over ?_ rfl)) ⟨by show Value.int _ _ = Value.int _ _; rw [hp, e], trivial⟩ rfl
          · skip
            omega
end Go.Proofs.Ytcfnmklbkhibgaa
