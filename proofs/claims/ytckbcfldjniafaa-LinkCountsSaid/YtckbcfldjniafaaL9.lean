/- Package link: conversions from and to the document's links. -/
import Derived.Test.YtckbcfldjniafaaL8
namespace Go.Proofs.Ytckbcfldjniafaa
open Go.RowKit

set_option maxRecDepth 100000 in
theorem to_c (l : LH) (H : Heap) (h : LkRd H l) (hs : LkSm l) :
    CallsH Try.prog 12 [.agg (lkC l).toArray] H fun v H' => ∃ L : LH, v = .agg (lkC L).toArray ∧ L.lk = l.lk ∧ LkRd H' L ∧ Ext H H' := by
  have s1 := hs.pat
  have s2 := hs.fly
  refine callsH_of Try.func12 rfl Try.ntmps12 (Nat.le_of_ble_eq_true rfl) ?_
  refine wpSeq fun F1 hF1 => ?_
  refine wpRegion ?_
  refine seqN rfl rfl (nBoxA rfl rfl) (fun g1 H1 hx1 hB1 hg1 hl1 => ?_)
  refine seqN rfl rfl (nAlloc rfl Try.zeroValue30 rfl) (fun g2 H2 hx2 hB2 hg2 hl2 => ?_)
  refine seqNil ?_
  refine hF1 _ _ ?_; clear hF1
  refine wpSeq fun F2 hF2 => ?_
  -- region 1
  have hE := hx1.trans hx2
  have z1 := hx1.size
  have z2 := hx2.size
  have h1 := hB1.ext hx2
  have h2 := hB2
  have gl1 := h1.lt
  have gl2 := h2.lt
  have g12 : g1 ≠ g2 := by have := hB1.lt; omega
  clear hx1 hx2 hB1 hB2
  refine wpRegionD Try_mixed [.n, .q, .q, .e, .q, .q, .q, .q, .q, .n, .e] 10 [0, 0, 2, 7, 0, 16, 0, 64, 255, 0, 1023] [] (by kernel_rfl) _ rfl [0, 1, 2, 3, 4, 5, 6, 7, 8, 9] rfl (by simp) ?_
  refine lexNB rfl rfl rfl rfl (nBuildSlice (vs := []) rfl Try.underlying22 Try.sizeOf5 Try.zeroValue5 rfl rfl rfl rfl) (fun g5 hg5 hne5 => ?_)
  refine lexQ rfl rfl rfl rfl (fun H hM => (yFieldAddr rfl Try.underlying25 rfl Try.sizeOf22 rfl rfl)) ?_
  refine lexQ rfl rfl rfl rfl (fun H hM => (yLoad rfl Try.underlying22 rfl rfl (hM.ext.cell (h1.cell rfl)))) ?_
  -- e slot 8: builtin append t5 t7 : [22, 22]
  have hn5 : ∀ z ∈ ([] : List NF), z.g ≠ g5 := by simp
  refine lexEG rfl rfl rfl rfl (by first | assumption | omega) (by first | (dsimp only; rfl) | kernel_rfl) hn5 (fun Hs hXs hMs hBs hFs => stepApp (c := eByte) (Own.lit (c := eByte) (l := []) (base := H2.size) hBs hg5 (by simp)) rfl Try.underlying22 elem_eByte rfl (by omega) rfl rfl rfl ((h.pat.ext hE).ext hMs.ext) (by simp; omega) (hMs.ext.size) ?_)
  intro v H8 o8 gr8
  rw [List.nil_append] at o8
  obtain ⟨PA, pc, rfl, -⟩ := o8.form
  have x8 : Ext H2 H8 := gr8.ext hMs.ext (by rintro g e; obtain rfl := Option.some.inj e; exact hg5)
  refine lexApp rfl gr8 (by simp) (by intro g e; exact (o8.lt g e).2) ?_
  refine lexQ rfl rfl rfl rfl (fun H hM => (yFieldAddr rfl Try.underlying25 rfl Try.sizeOf3 rfl rfl)) ?_
  refine lexQ rfl rfl rfl rfl (fun H hM => (yLoad rfl Try.underlying3 rfl rfl (hM.ext.cell (h1.cell rfl)))) ?_
  refine lexQ rfl rfl rfl rfl (fun H hM => (yFieldAddr rfl Try.underlying25 rfl Try.sizeOf3 rfl rfl)) ?_
  refine lexQ rfl rfl rfl rfl (fun H hM => (yLoad rfl Try.underlying3 rfl rfl (hM.ext.cell (h1.cell rfl)))) ?_
  refine lexQ rfl rfl rfl rfl (fun H hM => (yBuild (pl := [(0, 1), (1, 1), (2, 1), (3, 1)]) (vs := [(0, .slice _ _ _), (1, .int _ _), (2, .int _ _)]) rfl Try.underlying30 Try.zeroValue30 rfl (by unfold Places; kernel_rfl) rfl rfl)) ?_
  refine lexNB rfl rfl rfl rfl (nAlloc rfl Try.zeroValue30 rfl) (fun g3 hg3 hne3 => ?_)
  -- tail
  refine lexNilM (fun Hf hXf hMf hNf hFf => ?_)
  have h3 := NF.blk 9 hNf (.head _)
  have n3 : ∀ p, PA = some p → p.block ≠ g3 := fun p e e2 => hFf _ (.head _) (List.mem_append.2 (.inl (by rw [Option.mem_toList, e]; exact congrArg some e2)))
  have xf := x8.trans hXf
  have n2 : ∀ p, PA = some p → p.block ≠ g2 := fun p e => by have := (o8.lt p.block (by rw [e]; rfl)).1; omega
  have n13 : g1 ≠ g3 := by omega
  have n23 : g2 ≠ g3 := by omega
  have oPf := o8.ext hXf
  -- e slot None: store T30 t3 t13
  refine seqE0 rfl rfl (stepStoreB rfl (by kernel_rfl) rfl rfl rfl h3 rfl ?_)
  intro H4 h3' hK4
  replace h1 := (h1.ext xf).keep hK4 (by simpa using n13)
  replace h2 := (h2.ext xf).keep hK4 (by simpa using n23)
  replace hE := (hE.trans xf).mine hK4 (by simp; omega)
  have rP : RdM eByte ((Value.slice none 0 0).ownBlock.toList ++ [g2, g3]) H4 PA l.pat := RdM.of ((Own.rd oPf).2.keep hK4 (fun p e => by simpa using n3 p e)) (fun p e hm => by
    rcases (show p.block = g2 ∨ p.block = g3 by simpa [Value.ownBlock] using hm) with e2 | e2
    · exact n2 p e e2
    · exact n3 p e e2)
  have z4 := hK4.size
  have gl3 : g3 < H4.size := h3'.lt
  have zf := xf.size
  clear h3 hK4 oPf xf o8 gr8 x8 hXf hMf hNf hFf
  refine seqNil ?_
  refine hF2 _ _ ?_; clear hF2
  refine wpSeq fun F3 hF3 => ?_
  refine wpSeq fun F4 hF4 => ?_
  refine wpRegion ?_
  refine seqQ rfl rfl (yAssign (v := .int _ _) rfl rfl) ?_
  refine seqNil ?_
  refine hF4 _ _ ?_; clear hF4
  -- loop
  refine wpBlock ?_
  refine wpLoopS [4, 14, 15, 16, 17, 18, 19, 20, 21, 22, 23, 24, 25, 26, 27, 28, 29, 30, 31, 32, 33, 34, 35, 36, 37, 38, 39, 40] (fun k : Nat => [(4, .int .i64 k)]) (fun k H' => k ≤ l.fly.length ∧ Ext H H' ∧ H4.size ≤ H'.size ∧ Blk H' g1 (lkC l) _ ∧ Blk H' g2 [.slice none 0 0, .int .i64 0, .int .i64 0, .slice none 0 0] 30 ∧ ∃ (FA : Option Addr) (fc : Nat) (fl : List FH), Blk H' g3 (lkC ⟨PA, pc, l.pat, l.now, l.sent, FA, fc, fl⟩) 30 ∧ fl.map FH.fl = (l.fly.map FH.fl).take k ∧ RdM eByte ((Value.slice FA fl.length fc).ownBlock.toList ++ [g2, g3]) H' PA l.pat ∧ Own eFH 65 H' H4.size (.slice FA fl.length fc) fl ∧ ∀ x ∈ fl, RdM eByte ((Value.slice FA fl.length fc).ownBlock.toList ++ [g2, g3]) H' x.A x.data) (fun k => l.fly.length - k) 0 ⟨rfl, trivial⟩ ⟨Nat.zero_le _, hE, Nat.le_refl _, h1, h2, none, 0, [], h3', rfl, rP, Own.nil _ _, (fun x hx => by cases hx)⟩ ?_
  clear hE h1 h2 h3' rP
  rintro k J Hk ⟨hk, hE, zk, h1, h2, FA, fc, fl, h3, hfl, rP, ow, rD⟩
  have hfll : fl.length = k := by have := congrArg List.length hfl; rw [List.length_map, List.length_take, List.length_map] at this; omega
  refine wpSeq fun F5 hF5 => ?_
  refine wpSeq fun F6 hF6 => ?_
  refine wpRegion ?_
  refine seqQ rfl rfl (yMove (v := .int _ _) rfl rfl) ?_
  refine seqQ rfl rfl (yFieldAddr rfl Try.underlying25 rfl Try.sizeOf23 rfl rfl) ?_
  refine seqQ rfl rfl (yLoad rfl Try.underlying23 rfl rfl (h1.cell rfl)) ?_
  refine seqQ rfl rfl (yLen rfl Try.underlying23 rfl) ?_
  refine seqQ rfl rfl (yLss rfl rfl rfl) ?_
  refine seqNil ?_
  refine hF6 _ _ ?_; clear hF6
  -- if t18
  refine wpIf rfl (fun hlt => ?_) (fun hlt => ?_)
  · skip
    have hk : k < l.fly.length := by omega
    obtain ⟨p, ep, hp⟩ := (h.fly.ext hE).at hk
    have hdl := hs.data _ (List.getElem_mem hk)
    refine wpSkip ?_
    refine hF5 _ _ ?_; clear hF5
    refine wpSeq fun F7 hF7 => ?_
    refine wpBlock ?_
    -- region 5
    refine wpRegionD Try_mixed [.q, .q, .q, .q, .q, .q, .q, .q, .n, .q, .q, .q, .q, .q, .q, .e, .q, .n, .e, .q, .e] 18 [0, 1, 0, 4, 0, 28, 60, 124, 0, 0, 512, 0, 3584, 7680, 15872, 32512, 65532, 131068, 262143, 524287, 1048575] [] (by kernel_rfl) _ rfl [0, 1, 2, 3, 4, 5, 6, 7, 8, 9, 10, 11, 12, 13, 14, 15, 16, 17] rfl (by simp) ?_
    refine lexQ rfl rfl rfl rfl (fun H hM => (yFieldAddr rfl Try.underlying30 rfl Try.sizeOf28 rfl rfl)) ?_
    refine lexQ rfl rfl rfl rfl (fun H hM => (yLoad rfl Try.underlying28 rfl rfl (hM.ext.cell (h3.cell rfl)))) ?_
    refine lexQ rfl rfl rfl rfl (fun H hM => (yFieldAddr rfl Try.underlying25 rfl Try.sizeOf23 rfl rfl)) ?_
    refine lexQ rfl rfl rfl rfl (fun H hM => (yLoad rfl Try.underlying23 rfl rfl (hM.ext.cell (h1.cell rfl)))) ?_
    refine lexQ rfl rfl rfl rfl (fun H hM => (yMove (v := .int _ _) rfl rfl)) ?_
    refine lexQ rfl rfl rfl rfl (fun H hM => (yIdxP rfl Try.underlying23 Try.sizeOf63 rfl rfl ep rfl hk)) ?_
    refine lexQ rfl rfl rfl rfl (fun H hM => (yFieldAddr rfl Try.underlying63 rfl Try.sizeOf3 rfl rfl)) ?_
    refine lexQ rfl rfl rfl rfl (fun H hM => (yLoad rfl Try.underlying3 rfl rfl (hM.ext.cell (hp 0 _ rfl)))) ?_
    refine lexNB rfl rfl rfl rfl (nBuildSlice (vs := []) rfl Try.underlying22 Try.sizeOf5 Try.zeroValue5 rfl rfl rfl rfl) (fun g29 hg29 hne29 => ?_)
    refine lexQ rfl rfl rfl rfl (fun H hM => (yFieldAddr rfl Try.underlying25 rfl Try.sizeOf23 rfl rfl)) ?_
    refine lexQ rfl rfl rfl rfl (fun H hM => (yLoad rfl Try.underlying23 rfl rfl (hM.ext.cell (h1.cell rfl)))) ?_
    refine lexQ rfl rfl rfl rfl (fun H hM => (yMove (v := .int _ _) rfl rfl)) ?_
    refine lexQ rfl rfl rfl rfl (fun H hM => (yIdxP rfl Try.underlying23 Try.sizeOf63 rfl rfl ep rfl hk)) ?_
    refine lexQ rfl rfl rfl rfl (fun H hM => (yFieldAddr rfl Try.underlying63 rfl Try.sizeOf22 rfl rfl)) ?_
    refine lexQ rfl rfl rfl rfl (fun H hM => (yLoad rfl Try.underlying22 rfl rfl (hM.ext.cell (hp 1 _ rfl)))) ?_
    -- e slot 36: builtin append t29 t35 : [22, 22]
    have hn29 : ∀ z ∈ ([] : List NF), z.g ≠ g29 := by simp
    refine lexEG rfl rfl rfl rfl (by first | assumption | omega) (by first | (dsimp only; rfl) | kernel_rfl) hn29 (fun Hs hXs hMs hBs hFs => stepApp (c := eByte) (Own.lit (c := eByte) (l := []) (base := Hk.size) hBs hg29 (by simp)) rfl Try.underlying22 elem_eByte rfl (by omega) rfl rfl rfl (((h.data _ (List.getElem_mem hk)).ext hE).ext hMs.ext) (by simp; omega) (hMs.ext.size) ?_)
    intro v H5 o5 gr5
    rw [List.nil_append] at o5
    obtain ⟨DA, dc, rfl, -⟩ := o5.form
    have x5 : Ext Hk H5 := gr5.ext hMs.ext (by rintro g e; obtain rfl := Option.some.inj e; exact hg29)
    refine lexApp rfl gr5 (by simp) (by intro g e; exact (o5.lt g e).2) ?_
    refine lexQ rfl rfl rfl rfl (fun H hM => (yBuild (pl := [(0, 1), (1, 1)]) (vs := [(0, .int _ _), (1, .slice _ _ _)]) rfl Try.underlying65 Try.zeroValue65 rfl (by unfold Places; kernel_rfl) rfl rfl)) ?_
    refine lexNB rfl rfl rfl rfl (nBuildSliceN (vs := [.agg _]) rfl Try.underlying28 Try.sizeOf65 Try.zeroValue65 rfl rfl rfl rfl rfl) (fun g38 hg38 hne38 => ?_)
    -- tail
    refine lexNilM (fun Hg hXg hMg hNg hFg => ?_)
    have h38 := NF.blk 17 hNg (.head _)
    have xg := x5.trans hXg
    have zg := xg.size
    have hb : ∀ b ∈ (Value.slice FA fl.length fc).ownBlock.toList ++ [g2, g3], b < Hk.size := fun b hb => by
      rcases List.mem_append.1 hb with hb | hb
      · rw [Option.mem_toList] at hb
        exact (ow.lt b hb).2
      · rcases (show b = g2 ∨ b = g3 by simpa using hb) with rfl | rfl
        · exact h2.lt
        · exact h3.lt
    have rN : RdM eByte ((Value.slice FA fl.length fc).ownBlock.toList ++ [g2, g3]) Hg DA l.fly[k].data := RdM.of (Own.rd (o5.ext hXg)).2 (fun q e hm => by
      have e1 := (o5.lt q.block (by rw [e]; rfl)).1
      have e2 := hb _ hm
      omega)
    replace h1 := h1.ext xg
    replace h2 := h2.ext xg
    replace h3 := h3.ext xg
    replace hE := hE.trans xg
    replace ow := ow.ext xg
    replace rP := rP.tr (Tr.of_ext xg _)
    replace rD := fun x hx => (rD x hx).tr (Tr.of_ext xg _)
    -- e slot 39: builtin append t22 t38 : [28, 28]
    refine seqE rfl rfl (stepApp (c := eFH) ow rfl Try.underlying28 elem_eFH rfl (by omega) rfl rfl rfl (Blk.rd (c := eFH) (l := [⟨l.fly[k].due, DA, dc, l.fly[k].data⟩]) h38) (by simp; omega) (by omega) ?_)
    intro v' Ha oa ga
    obtain ⟨FA', fc', rfl, -⟩ := oa.form
    have tr := Tr.grew ga [g2, g3]
    have ob : ∀ b ∈ (Value.slice FA fl.length fc).ownBlock.toList, H4.size ≤ b := fun b hb => by rw [Option.mem_toList] at hb; exact (ow.lt b hb).1
    have h1a := h1.keep ga.1 (fun hm => by have := ob _ hm; omega)
    have h2a := h2.keep ga.1 (fun hm => by have := ob _ hm; omega)
    have h3a := h3.keep ga.1 (fun hm => by have := ob _ hm; omega)
    have hEa := hE.mine ga.1 (fun b hb => by have := ob _ hb; have := z4; omega)
    have rPa := rP.tr tr
    have rDa : ∀ x ∈ fl ++ [(⟨l.fly[k].due, DA, dc, l.fly[k].data⟩ : FH)], RdM eByte ((Value.slice FA' (fl ++ [(⟨l.fly[k].due, DA, dc, l.fly[k].data⟩ : FH)]).length fc').ownBlock.toList ++ [g2, g3]) Ha x.A x.data := fun x hx => by
      rcases List.mem_append.1 hx with hx | hx
      · exact (rD x hx).tr tr
      · rcases List.mem_singleton.1 hx with rfl
        exact rN.tr tr
    refine seqQ rfl rfl (yFieldAddr rfl Try.underlying30 rfl Try.sizeOf28 rfl rfl) ?_
    -- e slot None: store T28 t40 t39
    refine seqE0 rfl rfl (stepStore rfl Try.sizeOf28 rfl rfl rfl rfl h3a (Nat.le_of_ble_eq_true rfl) ?_)
    intro Hb h3b hKb
    replace h3b : Blk Hb g3 (lkC ⟨PA, pc, l.pat, l.now, l.sent, FA', fc', fl ++ [⟨l.fly[k].due, DA, dc, l.fly[k].data⟩]⟩) 30 := h3b
    have tb : ∀ {M : List Nat}, Tr (M ++ [g2, g3]) Ha (M ++ [g2, g3]) Hb := Tr.store hKb (by simp)
    refine seqNil ?_
    refine hF7 _ _ ?_; clear hF7
    refine wpRegion ?_
    refine seqQ rfl rfl (yMove (v := .int _ _) rfl rfl) ?_
    refine seqQ rfl rfl (yAdd rfl rfl rfl (by unfold In64; omega)) ?_
    refine seqQ rfl rfl (yAssign (v := .int _ _) rfl rfl) ?_
    refine seqNil ?_
    -- end loop
    refine loopEnd (k + 1) (by repeat (first | (with_reducible exact Agree.refl _ _) | refine Agree.upd ?_ rfl | refine Agree.over ?_ rfl)) (by omega) ⟨rfl, trivial⟩ ⟨hk, hEa.mine hKb (by simp; omega), by have := ga.1.size; have := hKb.size; omega, h1a.keep hKb (by simpa using n13), h2a.keep hKb (by simpa using n23), FA', fc', fl ++ [⟨l.fly[k].due, DA, dc, l.fly[k].data⟩], h3b, ?_, rPa.tr tb, oa.keep hKb (fun b hb => by have := (oa.lt b hb).1; simp; omega), fun x hx => (rDa x hx).tr tb⟩
    rw [List.map_append, hfl, List.take_succ_eq_append_getElem (by simpa using hk), List.getElem_map]
    rfl
  · skip
    obtain rfl : k = l.fly.length := by omega
    have hfl2 : fl.map FH.fl = l.fly.map FH.fl := by rw [hfl, List.take_of_length_le (by simp)]
    refine wpExit ?_
    refine hF3 _ _ ?_; clear hF3
    refine wpSeq fun F8 hF8 => ?_
    refine wpRegion ?_
    refine seqQ rfl rfl (yLoadB h3 rfl Try.underlying30 rfl Try.sizeOf30 rfl) ?_
    -- e slot None: store T30 t2 t41
    refine seqE0 rfl rfl (stepStoreB rfl (by kernel_rfl) rfl rfl rfl h2 rfl ?_)
    intro Hz h2z hKz
    have tz : ∀ {M : List Nat}, Tr (M ++ [g2, g3]) Hk (M ++ [g2, g3]) Hz := Tr.store hKz (by simp)
    refine seqNil ?_
    refine hF8 _ _ ?_; clear hF8
    -- ret
    refine wpRet (finR1 rfl (resC Try.underlying30 rfl (by kernel_rfl) rfl h2z) ?_)
    refine ⟨⟨PA, pc, l.pat, l.now, l.sent, FA, fc, fl⟩, rfl, by unfold LH.lk; rw [hfl2], ⟨(rP.tr tz).rd, (Own.rd (ow.keep hKz (fun b hb => by have := (ow.lt b hb).1; simp; omega))).2, fun x hx => ((rD x hx).tr tz).rd, ?_⟩, hE.mine hKz (by simp; omega)⟩
    obtain ⟨_, _, e, hl, -⟩ := ow.form
    cases e
    exact hl
set_option maxRecDepth 100000 in
theorem from_c (l : LH) (H : Heap) (h : LkRd H l) (hs : LkSm l) :
    CallsH Try.prog 17 [.agg (lkC l).toArray] H fun v H' => ∃ L : LH, v = .agg (lkC L).toArray ∧ L.lk = l.lk ∧ LkRd H' L ∧ Ext H H' := by
  have s1 := hs.pat
  have s2 := hs.fly
  refine callsH_of Try.func17 rfl Try.ntmps17 (Nat.le_of_ble_eq_true rfl) ?_
  refine wpSeq fun F1 hF1 => ?_
  refine wpRegion ?_
  refine seqN rfl rfl (nBoxA rfl rfl) (fun g1 H1 hx1 hB1 hg1 hl1 => ?_)
  refine seqN rfl rfl (nAlloc rfl Try.zeroValue25 rfl) (fun g2 H2 hx2 hB2 hg2 hl2 => ?_)
  refine seqNil ?_
  refine hF1 _ _ ?_; clear hF1
  refine wpSeq fun F2 hF2 => ?_
  -- region 1
  have hE := hx1.trans hx2
  have z1 := hx1.size
  have z2 := hx2.size
  have h1 := hB1.ext hx2
  have h2 := hB2
  have gl1 := h1.lt
  have gl2 := h2.lt
  have g12 : g1 ≠ g2 := by have := hB1.lt; omega
  clear hx1 hx2 hB1 hB2
  refine wpRegionD Try_mixed [.n, .q, .q, .e, .q, .q, .q, .q, .q, .n, .e] 10 [0, 0, 2, 7, 0, 16, 0, 64, 255, 0, 1023] [] (by kernel_rfl) _ rfl [0, 1, 2, 3, 4, 5, 6, 7, 8, 9] rfl (by simp) ?_
  refine lexNB rfl rfl rfl rfl (nBuildSlice (vs := []) rfl Try.underlying22 Try.sizeOf5 Try.zeroValue5 rfl rfl rfl rfl) (fun g5 hg5 hne5 => ?_)
  refine lexQ rfl rfl rfl rfl (fun H hM => (yFieldAddr rfl Try.underlying30 rfl Try.sizeOf22 rfl rfl)) ?_
  refine lexQ rfl rfl rfl rfl (fun H hM => (yLoad rfl Try.underlying22 rfl rfl (hM.ext.cell (h1.cell rfl)))) ?_
  -- e slot 8: builtin append t5 t7 : [22, 22]
  have hn5 : ∀ z ∈ ([] : List NF), z.g ≠ g5 := by simp
  refine lexEG rfl rfl rfl rfl (by first | assumption | omega) (by first | (dsimp only; rfl) | kernel_rfl) hn5 (fun Hs hXs hMs hBs hFs => stepApp (c := eByte) (Own.lit (c := eByte) (l := []) (base := H2.size) hBs hg5 (by simp)) rfl Try.underlying22 elem_eByte rfl (by omega) rfl rfl rfl ((h.pat.ext hE).ext hMs.ext) (by simp; omega) (hMs.ext.size) ?_)
  intro v H8 o8 gr8
  rw [List.nil_append] at o8
  obtain ⟨PA, pc, rfl, -⟩ := o8.form
  have x8 : Ext H2 H8 := gr8.ext hMs.ext (by rintro g e; obtain rfl := Option.some.inj e; exact hg5)
  refine lexApp rfl gr8 (by simp) (by intro g e; exact (o8.lt g e).2) ?_
  refine lexQ rfl rfl rfl rfl (fun H hM => (yFieldAddr rfl Try.underlying30 rfl Try.sizeOf3 rfl rfl)) ?_
  refine lexQ rfl rfl rfl rfl (fun H hM => (yLoad rfl Try.underlying3 rfl rfl (hM.ext.cell (h1.cell rfl)))) ?_
  refine lexQ rfl rfl rfl rfl (fun H hM => (yFieldAddr rfl Try.underlying30 rfl Try.sizeOf3 rfl rfl)) ?_
  refine lexQ rfl rfl rfl rfl (fun H hM => (yLoad rfl Try.underlying3 rfl rfl (hM.ext.cell (h1.cell rfl)))) ?_
  refine lexQ rfl rfl rfl rfl (fun H hM => (yBuild (pl := [(0, 1), (1, 1), (2, 1), (3, 1)]) (vs := [(0, .slice _ _ _), (1, .int _ _), (2, .int _ _)]) rfl Try.underlying25 Try.zeroValue25 rfl (by unfold Places; kernel_rfl) rfl rfl)) ?_
  refine lexNB rfl rfl rfl rfl (nAlloc rfl Try.zeroValue25 rfl) (fun g3 hg3 hne3 => ?_)
  -- tail
  refine lexNilM (fun Hf hXf hMf hNf hFf => ?_)
  have h3 := NF.blk 9 hNf (.head _)
  have n3 : ∀ p, PA = some p → p.block ≠ g3 := fun p e e2 => hFf _ (.head _) (List.mem_append.2 (.inl (by rw [Option.mem_toList, e]; exact congrArg some e2)))
  have xf := x8.trans hXf
  have n2 : ∀ p, PA = some p → p.block ≠ g2 := fun p e => by have := (o8.lt p.block (by rw [e]; rfl)).1; omega
  have n13 : g1 ≠ g3 := by omega
  have n23 : g2 ≠ g3 := by omega
  have oPf := o8.ext hXf
  -- e slot None: store T25 t3 t13
  refine seqE0 rfl rfl (stepStoreB rfl (by kernel_rfl) rfl rfl rfl h3 rfl ?_)
  intro H4 h3' hK4
  replace h1 := (h1.ext xf).keep hK4 (by simpa using n13)
  replace h2 := (h2.ext xf).keep hK4 (by simpa using n23)
  replace hE := (hE.trans xf).mine hK4 (by simp; omega)
  have rP : RdM eByte ((Value.slice none 0 0).ownBlock.toList ++ [g2, g3]) H4 PA l.pat := RdM.of ((Own.rd oPf).2.keep hK4 (fun p e => by simpa using n3 p e)) (fun p e hm => by
    rcases (show p.block = g2 ∨ p.block = g3 by simpa [Value.ownBlock] using hm) with e2 | e2
    · exact n2 p e e2
    · exact n3 p e e2)
  have z4 := hK4.size
  have gl3 : g3 < H4.size := h3'.lt
  have zf := xf.size
  clear h3 hK4 oPf xf o8 gr8 x8 hXf hMf hNf hFf
  refine seqNil ?_
  refine hF2 _ _ ?_; clear hF2
  refine wpSeq fun F3 hF3 => ?_
  refine wpSeq fun F4 hF4 => ?_
  refine wpRegion ?_
  refine seqQ rfl rfl (yAssign (v := .int _ _) rfl rfl) ?_
  refine seqNil ?_
  refine hF4 _ _ ?_; clear hF4
  -- loop
  refine wpBlock ?_
  refine wpLoopS [4, 14, 15, 16, 17, 18, 19, 20, 21, 22, 23, 24, 25, 26, 27, 28, 29, 30, 31, 32, 33, 34, 35, 36, 37, 38, 39, 40] (fun k : Nat => [(4, .int .i64 k)]) (fun k H' => k ≤ l.fly.length ∧ Ext H H' ∧ H4.size ≤ H'.size ∧ Blk H' g1 (lkC l) _ ∧ Blk H' g2 [.slice none 0 0, .int .i64 0, .int .i64 0, .slice none 0 0] 25 ∧ ∃ (FA : Option Addr) (fc : Nat) (fl : List FH), Blk H' g3 (lkC ⟨PA, pc, l.pat, l.now, l.sent, FA, fc, fl⟩) 25 ∧ fl.map FH.fl = (l.fly.map FH.fl).take k ∧ RdM eByte ((Value.slice FA fl.length fc).ownBlock.toList ++ [g2, g3]) H' PA l.pat ∧ Own eFH 63 H' H4.size (.slice FA fl.length fc) fl ∧ ∀ x ∈ fl, RdM eByte ((Value.slice FA fl.length fc).ownBlock.toList ++ [g2, g3]) H' x.A x.data) (fun k => l.fly.length - k) 0 ⟨rfl, trivial⟩ ⟨Nat.zero_le _, hE, Nat.le_refl _, h1, h2, none, 0, [], h3', rfl, rP, Own.nil _ _, (fun x hx => by cases hx)⟩ ?_
  clear hE h1 h2 h3' rP
  rintro k J Hk ⟨hk, hE, zk, h1, h2, FA, fc, fl, h3, hfl, rP, ow, rD⟩
  have hfll : fl.length = k := by have := congrArg List.length hfl; rw [List.length_map, List.length_take, List.length_map] at this; omega
  refine wpSeq fun F5 hF5 => ?_
  refine wpSeq fun F6 hF6 => ?_
  refine wpRegion ?_
  refine seqQ rfl rfl (yMove (v := .int _ _) rfl rfl) ?_
  refine seqQ rfl rfl (yFieldAddr rfl Try.underlying30 rfl Try.sizeOf28 rfl rfl) ?_
  refine seqQ rfl rfl (yLoad rfl Try.underlying28 rfl rfl (h1.cell rfl)) ?_
  refine seqQ rfl rfl (yLen rfl Try.underlying28 rfl) ?_
  refine seqQ rfl rfl (yLss rfl rfl rfl) ?_
  refine seqNil ?_
  refine hF6 _ _ ?_; clear hF6
  -- if t18
  refine wpIf rfl (fun hlt => ?_) (fun hlt => ?_)
  · skip
    have hk : k < l.fly.length := by omega
    obtain ⟨p, ep, hp⟩ := (h.fly.ext hE).at hk
    have hdl := hs.data _ (List.getElem_mem hk)
    refine wpSkip ?_
    refine hF5 _ _ ?_; clear hF5
    refine wpSeq fun F7 hF7 => ?_
    refine wpBlock ?_
    -- region 5
    refine wpRegionD Try_mixed [.q, .q, .q, .q, .q, .q, .q, .q, .n, .q, .q, .q, .q, .q, .q, .e, .q, .n, .e, .q, .e] 18 [0, 1, 0, 4, 0, 28, 60, 124, 0, 0, 512, 0, 3584, 7680, 15872, 32512, 65532, 131068, 262143, 524287, 1048575] [] (by kernel_rfl) _ rfl [0, 1, 2, 3, 4, 5, 6, 7, 8, 9, 10, 11, 12, 13, 14, 15, 16, 17] rfl (by simp) ?_
    refine lexQ rfl rfl rfl rfl (fun H hM => (yFieldAddr rfl Try.underlying25 rfl Try.sizeOf23 rfl rfl)) ?_
    refine lexQ rfl rfl rfl rfl (fun H hM => (yLoad rfl Try.underlying23 rfl rfl (hM.ext.cell (h3.cell rfl)))) ?_
    refine lexQ rfl rfl rfl rfl (fun H hM => (yFieldAddr rfl Try.underlying30 rfl Try.sizeOf28 rfl rfl)) ?_
    refine lexQ rfl rfl rfl rfl (fun H hM => (yLoad rfl Try.underlying28 rfl rfl (hM.ext.cell (h1.cell rfl)))) ?_
    refine lexQ rfl rfl rfl rfl (fun H hM => (yMove (v := .int _ _) rfl rfl)) ?_
    refine lexQ rfl rfl rfl rfl (fun H hM => (yIdxP rfl Try.underlying28 Try.sizeOf65 rfl rfl ep rfl hk)) ?_
    refine lexQ rfl rfl rfl rfl (fun H hM => (yFieldAddr rfl Try.underlying65 rfl Try.sizeOf3 rfl rfl)) ?_
    refine lexQ rfl rfl rfl rfl (fun H hM => (yLoad rfl Try.underlying3 rfl rfl (hM.ext.cell (hp 0 _ rfl)))) ?_
    refine lexNB rfl rfl rfl rfl (nBuildSlice (vs := []) rfl Try.underlying22 Try.sizeOf5 Try.zeroValue5 rfl rfl rfl rfl) (fun g29 hg29 hne29 => ?_)
    refine lexQ rfl rfl rfl rfl (fun H hM => (yFieldAddr rfl Try.underlying30 rfl Try.sizeOf28 rfl rfl)) ?_
    refine lexQ rfl rfl rfl rfl (fun H hM => (yLoad rfl Try.underlying28 rfl rfl (hM.ext.cell (h1.cell rfl)))) ?_
    refine lexQ rfl rfl rfl rfl (fun H hM => (yMove (v := .int _ _) rfl rfl)) ?_
    refine lexQ rfl rfl rfl rfl (fun H hM => (yIdxP rfl Try.underlying28 Try.sizeOf65 rfl rfl ep rfl hk)) ?_
    refine lexQ rfl rfl rfl rfl (fun H hM => (yFieldAddr rfl Try.underlying65 rfl Try.sizeOf22 rfl rfl)) ?_
    refine lexQ rfl rfl rfl rfl (fun H hM => (yLoad rfl Try.underlying22 rfl rfl (hM.ext.cell (hp 1 _ rfl)))) ?_
    -- e slot 36: builtin append t29 t35 : [22, 22]
    have hn29 : ∀ z ∈ ([] : List NF), z.g ≠ g29 := by simp
    refine lexEG rfl rfl rfl rfl (by first | assumption | omega) (by first | (dsimp only; rfl) | kernel_rfl) hn29 (fun Hs hXs hMs hBs hFs => stepApp (c := eByte) (Own.lit (c := eByte) (l := []) (base := Hk.size) hBs hg29 (by simp)) rfl Try.underlying22 elem_eByte rfl (by omega) rfl rfl rfl (((h.data _ (List.getElem_mem hk)).ext hE).ext hMs.ext) (by simp; omega) (hMs.ext.size) ?_)
    intro v H5 o5 gr5
    rw [List.nil_append] at o5
    obtain ⟨DA, dc, rfl, -⟩ := o5.form
    have x5 : Ext Hk H5 := gr5.ext hMs.ext (by rintro g e; obtain rfl := Option.some.inj e; exact hg29)
    refine lexApp rfl gr5 (by simp) (by intro g e; exact (o5.lt g e).2) ?_
    refine lexQ rfl rfl rfl rfl (fun H hM => (yBuild (pl := [(0, 1), (1, 1)]) (vs := [(0, .int _ _), (1, .slice _ _ _)]) rfl Try.underlying63 Try.zeroValue63 rfl (by unfold Places; kernel_rfl) rfl rfl)) ?_
    refine lexNB rfl rfl rfl rfl (nBuildSliceN (vs := [.agg _]) rfl Try.underlying23 Try.sizeOf63 Try.zeroValue63 rfl rfl rfl rfl rfl) (fun g38 hg38 hne38 => ?_)
    -- tail
    refine lexNilM (fun Hg hXg hMg hNg hFg => ?_)
    have h38 := NF.blk 17 hNg (.head _)
    have xg := x5.trans hXg
    have zg := xg.size
    have hb : ∀ b ∈ (Value.slice FA fl.length fc).ownBlock.toList ++ [g2, g3], b < Hk.size := fun b hb => by
      rcases List.mem_append.1 hb with hb | hb
      · rw [Option.mem_toList] at hb
        exact (ow.lt b hb).2
      · rcases (show b = g2 ∨ b = g3 by simpa using hb) with rfl | rfl
        · exact h2.lt
        · exact h3.lt
    have rN : RdM eByte ((Value.slice FA fl.length fc).ownBlock.toList ++ [g2, g3]) Hg DA l.fly[k].data := RdM.of (Own.rd (o5.ext hXg)).2 (fun q e hm => by
      have e1 := (o5.lt q.block (by rw [e]; rfl)).1
      have e2 := hb _ hm
      omega)
    replace h1 := h1.ext xg
    replace h2 := h2.ext xg
    replace h3 := h3.ext xg
    replace hE := hE.trans xg
    replace ow := ow.ext xg
    replace rP := rP.tr (Tr.of_ext xg _)
    replace rD := fun x hx => (rD x hx).tr (Tr.of_ext xg _)
    -- e slot 39: builtin append t22 t38 : [23, 23]
    refine seqE rfl rfl (stepApp (c := eFH) ow rfl Try.underlying23 elem_eFHr rfl (by omega) rfl rfl rfl (Blk.rd (c := eFH) (l := [⟨l.fly[k].due, DA, dc, l.fly[k].data⟩]) h38) (by simp; omega) (by omega) ?_)
    intro v' Ha oa ga
    obtain ⟨FA', fc', rfl, -⟩ := oa.form
    have tr := Tr.grew ga [g2, g3]
    have ob : ∀ b ∈ (Value.slice FA fl.length fc).ownBlock.toList, H4.size ≤ b := fun b hb => by rw [Option.mem_toList] at hb; exact (ow.lt b hb).1
    have h1a := h1.keep ga.1 (fun hm => by have := ob _ hm; omega)
    have h2a := h2.keep ga.1 (fun hm => by have := ob _ hm; omega)
    have h3a := h3.keep ga.1 (fun hm => by have := ob _ hm; omega)
    have hEa := hE.mine ga.1 (fun b hb => by have := ob _ hb; have := z4; omega)
    have rPa := rP.tr tr
    have rDa : ∀ x ∈ fl ++ [(⟨l.fly[k].due, DA, dc, l.fly[k].data⟩ : FH)], RdM eByte ((Value.slice FA' (fl ++ [(⟨l.fly[k].due, DA, dc, l.fly[k].data⟩ : FH)]).length fc').ownBlock.toList ++ [g2, g3]) Ha x.A x.data := fun x hx => by
      rcases List.mem_append.1 hx with hx | hx
      · exact (rD x hx).tr tr
      · rcases List.mem_singleton.1 hx with rfl
        exact rN.tr tr
    refine seqQ rfl rfl (yFieldAddr rfl Try.underlying25 rfl Try.sizeOf23 rfl rfl) ?_
    -- e slot None: store T23 t40 t39
    refine seqE0 rfl rfl (stepStore rfl Try.sizeOf23 rfl rfl rfl rfl h3a (Nat.le_of_ble_eq_true rfl) ?_)
    intro Hb h3b hKb
    replace h3b : Blk Hb g3 (lkC ⟨PA, pc, l.pat, l.now, l.sent, FA', fc', fl ++ [⟨l.fly[k].due, DA, dc, l.fly[k].data⟩]⟩) 25 := h3b
    have tb : ∀ {M : List Nat}, Tr (M ++ [g2, g3]) Ha (M ++ [g2, g3]) Hb := Tr.store hKb (by simp)
    refine seqNil ?_
    refine hF7 _ _ ?_; clear hF7
    refine wpRegion ?_
    refine seqQ rfl rfl (yMove (v := .int _ _) rfl rfl) ?_
    refine seqQ rfl rfl (yAdd rfl rfl rfl (by unfold In64; omega)) ?_
    refine seqQ rfl rfl (yAssign (v := .int _ _) rfl rfl) ?_
    refine seqNil ?_
    -- end loop
    refine loopEnd (k + 1) (by repeat (first | (with_reducible exact Agree.refl _ _) | refine Agree.upd ?_ rfl | refine Agree.over ?_ rfl)) (by omega) ⟨rfl, trivial⟩ ⟨hk, hEa.mine hKb (by simp; omega), by have := ga.1.size; have := hKb.size; omega, h1a.keep hKb (by simpa using n13), h2a.keep hKb (by simpa using n23), FA', fc', fl ++ [⟨l.fly[k].due, DA, dc, l.fly[k].data⟩], h3b, ?_, rPa.tr tb, oa.keep hKb (fun b hb => by have := (oa.lt b hb).1; simp; omega), fun x hx => (rDa x hx).tr tb⟩
    rw [List.map_append, hfl, List.take_succ_eq_append_getElem (by simpa using hk), List.getElem_map]
    rfl
  · skip
    obtain rfl : k = l.fly.length := by omega
    have hfl2 : fl.map FH.fl = l.fly.map FH.fl := by rw [hfl, List.take_of_length_le (by simp)]
    refine wpExit ?_
    refine hF3 _ _ ?_; clear hF3
    refine wpSeq fun F8 hF8 => ?_
    refine wpRegion ?_
    refine seqQ rfl rfl (yLoadB h3 rfl Try.underlying25 rfl Try.sizeOf25 rfl) ?_
    -- e slot None: store T25 t2 t41
    refine seqE0 rfl rfl (stepStoreB rfl (by kernel_rfl) rfl rfl rfl h2 rfl ?_)
    intro Hz h2z hKz
    have tz : ∀ {M : List Nat}, Tr (M ++ [g2, g3]) Hk (M ++ [g2, g3]) Hz := Tr.store hKz (by simp)
    refine seqNil ?_
    refine hF8 _ _ ?_; clear hF8
    -- ret
    refine wpRet (finR1 rfl (resC Try.underlying25 rfl (by kernel_rfl) rfl h2z) ?_)
    refine ⟨⟨PA, pc, l.pat, l.now, l.sent, FA, fc, fl⟩, rfl, by unfold LH.lk; rw [hfl2], ⟨(rP.tr tz).rd, (Own.rd (ow.keep hKz (fun b hb => by have := (ow.lt b hb).1; simp; omega))).2, fun x hx => ((rD x hx).tr tz).rd, ?_⟩, hE.mine hKz (by simp; omega)⟩
    obtain ⟨_, _, e, hl, -⟩ := ow.form
    cases e
    exact hl
end Go.Proofs.Ytckbcfldjniafaa
