/- Package link: the document's Tick. -/
import Derived.Test.YtckbcfldjniafaaL10
namespace Go.Proofs.Ytckbcfldjniafaa
open Go.RowKit

set_option maxRecDepth 100000 in
theorem mem_swap {α : Type} {b : α} {X Y Z : List α} (h : b ∈ X ++ (Y ++ Z)) : b ∈ Y ++ (X ++ Z) := by
  simp only [List.mem_append] at h ⊢
  rcases h with h | h | h
  · exact .inr (.inl h)
  · exact .inl h
  · exact .inr (.inr h)
set_option maxRecDepth 100000 in
theorem filter_tw {α : Type} (p : α → Bool) : ∀ (l : List α), (∀ (i j : Nat) (hi : i < l.length) (hj : j < l.length), i ≤ j → p l[j] = true → p l[i] = true) → l.filter p = l.takeWhile p ∧ l.filter (fun x => !p x) = l.dropWhile p
  | [], _ => ⟨rfl, rfl⟩
  | x :: l, h => by
    have ih := filter_tw p l (fun i j hi hj hij hp => by have := h (i + 1) (j + 1) (by simpa using hi) (by simpa using hj) (by omega) (by simpa using hp); simpa using this)
    by_cases hx : p x = true
    · simp [hx, ih.1]
      rw [← ih.2]
    · have hx : p x = false := by simpa using hx
      have hn : ∀ y ∈ l, p y = false := fun y hy => by
        obtain ⟨j, hj, rfl⟩ := List.getElem_of_mem hy
        cases hpj : p l[j] with
        | false => rfl
        | true =>
          have := h 0 (j + 1) (by simp) (by simpa using hj) (by omega) (by simpa using hpj)
          simp [hx] at this
      have e1 : l.filter p = [] := List.filter_eq_nil_iff.2 (fun y hy => by simp [hn y hy])
      have e2 : l.filter (fun x => !p x) = l := List.filter_eq_self.2 (fun y hy => by simp [hn y hy])
      simp [hx, e1, e2]
set_option maxRecDepth 100000 in
theorem GoodF.tw {now : Int} {f : List Fl} (h : GoodF now f) : f.filter (fun x => decide (x.1 = now + 1)) = f.takeWhile (fun x => decide (x.1 = now + 1)) ∧ f.filter (fun x => !decide (x.1 = now + 1)) = f.dropWhile (fun x => decide (x.1 = now + 1)) :=
  filter_tw _ _ fun i j hi hj hij hp => by
    have h1 := (h.rng _ (List.getElem_mem hi)).1
    have h2 : f[i].1 ≤ f[j].1 := by
      rcases Nat.lt_or_ge i j with hlt | hge
      · exact (List.pairwise_iff_getElem.1 h.srt) i j hi hj hlt
      · obtain rfl : i = j := by omega
        exact Int.le_refl _
    simp only [decide_eq_true_eq] at hp ⊢
    omega
set_option maxRecDepth 100000 in
theorem rTick_c (l : LH) (H : Heap) (h : LkRd H l) (hs : LkSm l) :
    CallsH Try.prog 13 [.agg (lkC l).toArray] H fun v H' => ∃ (L : LH) (VA : Option Addr) (vc : Nat) (bs : List BH), v = .tuple #[.agg (lkC L).toArray, .slice VA bs.length vc] ∧ L.lk = (tickL l.lk).1 ∧ bs.map BH.data = (tickL l.lk).2 ∧ LkRd H' L ∧ PksRd H' H.size (.slice VA bs.length vc) bs ∧ Ext H H' := by
  refine callsH_of Try.func13 rfl Try.ntmps13 (Nat.le_of_ble_eq_true rfl) ?_
  refine wpSeq fun F1 hF1 => ?_
  refine wpRegion ?_
  refine seqN rfl rfl (nBoxA rfl rfl) (fun g1 H1 hx1 hB1 hg1 hl1 => ?_)
  refine seqN rfl rfl (nAlloc rfl Try.zeroValue25 rfl) (fun g2 H2 hx2 hB2 hg2 hl2 => ?_)
  refine seqQ rfl rfl (yAssign (v := .slice _ _ _) rfl rfl) ?_
  refine seqNil ?_
  refine hF1 _ _ ?_; clear hF1
  refine wpSeq fun F2 hF2 => ?_
  refine wpSeq fun F3 hF3 => ?_
  -- region 1
  have hE := hx1.trans hx2
  have s1 := hx1.size
  have s2 := hx2.size
  have h1 := hB1.ext hx2
  have h2 := hB2
  have hl1 := h1.lt
  have hl2 := h2.lt
  have g12 : g1 ≠ g2 := by have := hB1.lt; omega
  clear hx1 hx2 hB1 hB2
  refine wpRegion ?_
  refine seqQ rfl rfl (yLoadB h1 rfl Try.underlying25 rfl Try.sizeOf25 rfl) ?_
  -- e slot 8: call F19<farandole/farandoleref45.Valid> t7
  refine seqE rfl rfl (stepCall rfl Try.call19 rfl ?_)
  refine (rValidL_c l H2 (h.ext hE) hs).mono ?_
  rintro v H5 ⟨rfl, x5⟩
  replace h1 := h1.ext x5
  replace h2 := h2.ext x5
  have s5 := x5.size
  replace hE := hE.trans x5
  clear x5
  by_cases hbad : ¬ ValidL l.lk ∨ l.lk.now = 1099511627776
  · skip
    have hend : ∀ H6, Keep [g2] H5 H6 → Ext H H6 := fun H6 hK => hE.mine hK (by simp; omega)
    by_cases hv : ValidL l.lk
    · skip
      rw [decide_eq_true hv]
      have hsent : l.now = 1099511627776 := hbad.resolve_left (fun hn => hn hv)
      refine seqQ rfl rfl (yNot rfl rfl) ?_
      refine seqQ rfl rfl (yMove (v := .bool false) rfl rfl) ?_
      refine seqQ rfl rfl (yFieldAddr rfl Try.underlying25 rfl Try.sizeOf3 rfl rfl) ?_
      refine seqQ rfl rfl (yLoad rfl Try.underlying3 rfl rfl (h1.cell rfl)) ?_
      refine seqQ rfl rfl (yEql rfl rfl rfl) ?_
      refine seqQ rfl rfl (yPickF (v := .bool _) rfl rfl rfl) ?_
      refine seqNil ?_
      refine hF3 _ _ ?_; clear hF3
      -- if t14
      rw [decide_eq_true hsent]
      refine wpT rfl ?_
      refine wpSeq fun F4 hF4 => ?_
      refine wpRegion ?_
      refine seqQ rfl rfl (yBuild (pl := [(0, 1), (1, 1), (2, 1), (3, 1)]) (vs := []) rfl Try.underlying25 Try.zeroValue25 rfl (by unfold Places; kernel_rfl) rfl rfl) ?_
      -- e slot None: store T25 t2 t15
      refine seqE0 rfl rfl (stepStoreB rfl (by kernel_rfl) rfl rfl rfl h2 rfl ?_)
      intro H6 h6 hK6
      refine seqQ rfl rfl (yAssign (v := .slice _ _ _) rfl rfl) ?_
      refine seqNil ?_
      refine hF4 _ _ ?_; clear hF4
      -- ret
      refine wpRet (finR2 rfl (resC Try.underlying25 rfl (by kernel_rfl) rfl h6) (resT (v := .slice _ _ _) rfl) ?_)
      rw [tickL_bad hbad]
      exact ⟨lh0, none, 0, [], rfl, rfl, rfl, lh0_rd _, ⟨Own.nil _ _, (fun x hx => by cases hx), (fun x hx => by cases hx)⟩, hend _ hK6⟩
    · skip
      rw [decide_eq_false hv]
      refine seqQ rfl rfl (yNot rfl rfl) ?_
      refine seqQ rfl rfl (yMove (v := .bool true) rfl rfl) ?_
      refine seqU rfl rfl ?_
      refine seqU rfl rfl ?_
      refine seqU rfl rfl ?_
      refine seqQ rfl rfl (yPickT (v := .bool _) rfl rfl rfl) ?_
      refine seqNil ?_
      refine hF3 _ _ ?_; clear hF3
      -- if t14
      refine wpT rfl ?_
      refine wpSeq fun F5 hF5 => ?_
      refine wpRegion ?_
      refine seqQ rfl rfl (yBuild (pl := [(0, 1), (1, 1), (2, 1), (3, 1)]) (vs := []) rfl Try.underlying25 Try.zeroValue25 rfl (by unfold Places; kernel_rfl) rfl rfl) ?_
      -- e slot None: store T25 t2 t15
      refine seqE0 rfl rfl (stepStoreB rfl (by kernel_rfl) rfl rfl rfl h2 rfl ?_)
      intro H6 h6 hK6
      refine seqQ rfl rfl (yAssign (v := .slice _ _ _) rfl rfl) ?_
      refine seqNil ?_
      refine hF5 _ _ ?_; clear hF5
      -- ret
      refine wpRet (finR2 rfl (resC Try.underlying25 rfl (by kernel_rfl) rfl h6) (resT (v := .slice _ _ _) rfl) ?_)
      rw [tickL_bad hbad]
      exact ⟨lh0, none, 0, [], rfl, rfl, rfl, lh0_rd _, ⟨Own.nil _ _, (fun x hx => by cases hx), (fun x hx => by cases hx)⟩, hend _ hK6⟩
  · skip
    have hv : ValidL l.lk := Classical.byContradiction fun hn => hbad (.inl hn)
    have hsent : ¬ l.now = 1099511627776 := fun e => hbad (.inr e)
    rw [decide_eq_true hv]
    refine seqQ rfl rfl (yNot rfl rfl) ?_
    refine seqQ rfl rfl (yMove (v := .bool false) rfl rfl) ?_
    refine seqQ rfl rfl (yFieldAddr rfl Try.underlying25 rfl Try.sizeOf3 rfl rfl) ?_
    refine seqQ rfl rfl (yLoad rfl Try.underlying3 rfl rfl (h1.cell rfl)) ?_
    refine seqQ rfl rfl (yEql rfl rfl rfl) ?_
    refine seqQ rfl rfl (yPickF (v := .bool _) rfl rfl rfl) ?_
    refine seqNil ?_
    refine hF3 _ _ ?_; clear hF3
    -- if t14
    rw [decide_eq_false hsent]
    refine wpF rfl ?_
    obtain ⟨v1, ⟨v2, v3⟩, ⟨v4, v5⟩, -, -⟩ := id hv
    have v2 : 0 ≤ l.now := v2
    have v3 : l.now ≤ 1099511627776 := v3
    have hgood := hv.good
    have sfl := hs.fly
    refine wpSkip ?_
    refine hF2 _ _ ?_; clear hF2
    refine wpSeq fun F6 hF6 => ?_
    refine wpRegion ?_
    refine seqQ rfl rfl (yFieldAddr rfl Try.underlying25 rfl Try.sizeOf3 rfl rfl) ?_
    refine seqQ rfl rfl (yLoad rfl Try.underlying3 rfl rfl (h1.cell rfl)) ?_
    refine seqQ rfl rfl (yAdd rfl rfl rfl (by unfold In64; omega)) ?_
    refine seqQ rfl rfl (yFieldAddr rfl Try.underlying25 rfl Try.sizeOf3 rfl rfl) ?_
    -- e slot None: store T3 t19 t18
    refine seqE0 rfl rfl (stepStore rfl Try.sizeOf3 rfl rfl rfl rfl h1 (Nat.le_of_ble_eq_true rfl) ?_)
    intro H8 h1' hK8
    replace h1 : Blk H8 g1 (lkC { l with now := l.now + 1 }) 25 := h1'
    replace h2 := h2.keep hK8 (by simp; omega)
    replace hE := hE.mine hK8 (by simp; omega)
    have s8 := hK8.size
    clear h1' hK8
    refine seqNil ?_
    refine hF6 _ _ ?_; clear hF6
    refine wpSeq fun F7 hF7 => ?_
    refine wpRegion ?_
    refine seqQ rfl rfl (yAssign (v := .slice _ _ _) rfl rfl) ?_
    refine seqNil ?_
    refine hF7 _ _ ?_; clear hF7
    refine wpSeq fun F8 hF8 => ?_
    refine wpRegion ?_
    refine seqQ rfl rfl (yAssign (v := .slice _ _ _) rfl rfl) ?_
    refine seqNil ?_
    refine hF8 _ _ ?_; clear hF8
    refine wpSeq fun F9 hF9 => ?_
    refine wpSeq fun F10 hF10 => ?_
    refine wpRegion ?_
    refine seqQ rfl rfl (yAssign (v := .int _ _) rfl rfl) ?_
    refine seqNil ?_
    refine hF10 _ _ ?_; clear hF10
    -- loop
    refine wpBlock ?_
    refine wpLoopS [4, 5, 6, 20, 21, 22, 23, 24, 25, 26, 27, 28, 29, 30, 31, 32, 33, 34, 35, 36, 37, 38, 39, 40, 41, 42, 43, 44, 45, 46, 47, 48, 49, 50, 51, 52, 53, 54] (fun x : Nat × Value × Value => [(6, .int .i64 x.1), (4, x.2.1), (5, x.2.2)]) (fun x H' => x.1 ≤ l.fly.length ∧ Ext H H' ∧ H8.size ≤ H'.size ∧ Blk H' g1 (lkC { l with now := l.now + 1 }) 25 ∧ Blk H' g2 [.slice none 0 0, .int .i64 0, .int .i64 0, .slice none 0 0] 25 ∧ Apart x.2.1 x.2.2 ∧ (∃ bs : List BH, bs.map BH.data = ((l.fly.take x.1).filter (fun f => decide (f.due = l.now + 1))).map FH.data ∧ Own eBH 22 H' H8.size x.2.1 bs ∧ ∀ y ∈ bs, RdM eByte (x.2.1.ownBlock.toList ++ (x.2.2.ownBlock.toList ++ [g1, g2])) H' y.A y.data ∧ ∀ p, y.A = some p → H8.size ≤ p.block) ∧ Own eFH 63 H' H8.size x.2.2 ((l.fly.take x.1).filter (fun f => !decide (f.due = l.now + 1)))) (fun x => l.fly.length - x.1) (0, .slice none 0 0, .slice none 0 0) ⟨rfl, rfl, rfl, trivial⟩ ⟨Nat.zero_le _, hE, Nat.le_refl _, h1, h2, Apart.nil _ _ _, ⟨[], rfl, Own.nil _ _, (fun x hx => by cases hx)⟩, Own.nil _ _⟩ ?_
    clear hE h1 h2
    rintro ⟨k, va, vr⟩ J Hk ⟨hk, hE, sk, h1, h2, hap, ⟨bs, hbs, oa, rD⟩, orr⟩
    dsimp only at hk hap hbs oa rD orr
    obtain ⟨VA, vc, rfl, -⟩ := oa.form
    obtain ⟨RA, rc, rfl, hrc, -⟩ := orr.form
    have hbl : bs.length ≤ l.fly.length := by
      have := congrArg List.length hbs
      rw [List.length_map, List.length_map] at this
      have := List.length_filter_le (fun f : FH => decide (f.due = l.now + 1)) (l.fly.take k)
      rw [List.length_take] at this
      omega
    have hrl : ((l.fly.take k).filter (fun f => !decide (f.due = l.now + 1))).length ≤ l.fly.length := by
      have := List.length_filter_le (fun f : FH => !decide (f.due = l.now + 1)) (l.fly.take k)
      rw [List.length_take] at this
      omega
    refine wpSeq fun F11 hF11 => ?_
    refine wpSeq fun F12 hF12 => ?_
    refine wpRegion ?_
    refine seqQ rfl rfl (yMove (v := .int _ _) rfl rfl) ?_
    refine seqQ rfl rfl (yFieldAddr rfl Try.underlying25 rfl Try.sizeOf23 rfl rfl) ?_
    refine seqQ rfl rfl (yLoad rfl Try.underlying23 rfl rfl (h1.cell rfl)) ?_
    refine seqQ rfl rfl (yLen rfl Try.underlying23 rfl) ?_
    refine seqQ rfl rfl (yLss rfl rfl rfl) ?_
    refine seqNil ?_
    refine hF12 _ _ ?_; clear hF12
    -- if t24
    refine wpIf rfl (fun hlt => ?_) (fun hlt => ?_)
    · skip
      have hk : k < l.fly.length := by dsimp only at hlt; omega
      obtain ⟨p, ep, hp⟩ := (h.fly.ext hE).at hk
      have hdl := hs.data _ (List.getElem_mem hk)
      have etk : l.fly.take (k + 1) = l.fly.take k ++ [l.fly[k]] := List.take_succ_eq_append_getElem hk
      refine wpSkip ?_
      refine hF11 _ _ ?_; clear hF11
      refine wpSeq fun F13 hF13 => ?_
      refine wpBlock ?_
      refine wpSeq fun F14 hF14 => ?_
      refine wpRegionD Try_mixed [.q, .q, .q, .q, .q, .q, .q, .q, .q] 8 [0, 1, 0, 7, 15, 31, 0, 64, 255] [] (by kernel_rfl) _ rfl [0, 1, 2, 3, 4, 5, 6, 7] rfl (by simp) ?_
      refine lexQ rfl rfl rfl rfl (fun H hM => (yFieldAddr rfl Try.underlying25 rfl Try.sizeOf23 rfl rfl)) ?_
      refine lexQ rfl rfl rfl rfl (fun H hM => (yLoad rfl Try.underlying23 rfl rfl (hM.ext.cell (h1.cell rfl)))) ?_
      refine lexQ rfl rfl rfl rfl (fun H hM => (yMove (v := .int _ _) rfl rfl)) ?_
      refine lexQ rfl rfl rfl rfl (fun H hM => (yIdxP rfl Try.underlying23 Try.sizeOf63 rfl rfl ep rfl hk)) ?_
      refine lexQ rfl rfl rfl rfl (fun H hM => (yFieldAddr rfl Try.underlying63 rfl Try.sizeOf3 rfl rfl)) ?_
      refine lexQ rfl rfl rfl rfl (fun H hM => (yLoad rfl Try.underlying3 rfl rfl (hM.ext.cell (hp 0 _ rfl)))) ?_
      refine lexQ rfl rfl rfl rfl (fun H hM => (yFieldAddr rfl Try.underlying25 rfl Try.sizeOf3 rfl rfl)) ?_
      refine lexQ rfl rfl rfl rfl (fun H hM => (yLoad rfl Try.underlying3 rfl rfl (hM.ext.cell (h1.cell rfl)))) ?_
      -- tail
      refine lexNil0 rfl (fun hM => ?_)
      refine seqQ rfl rfl (yEql rfl rfl rfl) ?_
      refine seqNil ?_
      refine hF14 _ _ ?_; clear hF14
      -- if t35
      refine wpIf rfl (fun hdu => ?_) (fun hdu => ?_)
      · skip
        dsimp only at hdu
        have efa : (l.fly.take (k + 1)).filter (fun f => decide (f.due = l.now + 1)) = (l.fly.take k).filter (fun f => decide (f.due = l.now + 1)) ++ [l.fly[k]] := by rw [etk, List.filter_append]; simp [hdu]
        have efr : (l.fly.take (k + 1)).filter (fun f => !decide (f.due = l.now + 1)) = (l.fly.take k).filter (fun f => !decide (f.due = l.now + 1)) := by rw [etk, List.filter_append]; simp [hdu]
        refine wpRegion ?_
        refine seqQ rfl rfl (yMove (v := .slice _ _ _) rfl rfl) ?_
        refine seqN rfl rfl (nBuildSlice (vs := []) rfl Try.underlying22 Try.sizeOf5 Try.zeroValue5 rfl rfl rfl rfl) (fun g37 H37 hx37 hB37 hg37 hl37 => ?_)
        refine seqQ rfl rfl (yFieldAddr rfl Try.underlying25 rfl Try.sizeOf23 rfl rfl) ?_
        refine seqQ rfl rfl (yLoad rfl Try.underlying23 rfl rfl ((h1.ext hx37).cell rfl)) ?_
        refine seqQ rfl rfl (yMove (v := .int _ _) rfl rfl) ?_
        refine seqQ rfl rfl (yIdxP rfl Try.underlying23 Try.sizeOf63 rfl rfl ep rfl hk) ?_
        refine seqQ rfl rfl (yFieldAddr rfl Try.underlying63 rfl Try.sizeOf22 rfl rfl) ?_
        refine seqQ rfl rfl (yLoad rfl Try.underlying22 rfl rfl (hx37.cell (hp 1 _ rfl))) ?_
        -- e slot 44: builtin append t37 t43 : [22, 22]
        refine seqE rfl rfl (stepApp (c := eByte) (Own.lit (c := eByte) (l := []) (base := Hk.size) hB37 hg37 (by simp)) rfl Try.underlying22 elem_eByte rfl (by omega) rfl rfl rfl (((h.data _ (List.getElem_mem hk)).ext hE).ext hx37) (by simp; omega) hx37.size ?_)
        intro v44 Ha o44 gr44
        rw [List.nil_append] at o44
        obtain ⟨DA, dc, rfl, -⟩ := o44.form
        have xa : Ext Hk Ha := gr44.ext hx37 (by rintro g e; obtain rfl := Option.some.inj e; exact hg37)
        refine seqN rfl rfl (nBuildSlice (vs := [.slice _ _ _]) rfl Try.underlying31 Try.sizeOf22 Try.zeroValue22 rfl rfl rfl rfl) (fun g45 H45 hx45 hB45 hg45 hl45 => ?_)
        -- e slot 46: builtin append t36 t45 : [31, 31]
        have xb := xa.trans hx45
        have zb := xb.size
        refine seqE rfl rfl (stepApp (c := eBH) (oa.ext xb) rfl Try.underlying31 elem_eBH rfl (by omega) rfl rfl rfl (Blk.rd (c := eBH) (l := [(⟨DA, dc, l.fly[k].data⟩ : BH)]) hB45) (by simp; omega) (by omega) ?_)
        intro v46 Hb ob gb
        obtain ⟨VB, vcb, rfl, -⟩ := ob.form
        have hob : ∀ b ∈ (Value.slice VA bs.length vc).ownBlock.toList, H8.size ≤ b ∧ b < Hk.size := fun b hb => by rw [Option.mem_toList] at hb; exact oa.lt b hb
        have hor : ∀ b, (Value.slice RA ((l.fly.take k).filter (fun f => !decide (f.due = l.now + 1))).length rc).ownBlock = some b → H8.size ≤ b ∧ b < Hk.size := fun b hb => orr.lt b hb
        have tr := Tr.grew gb ((Value.slice RA ((l.fly.take k).filter (fun f => !decide (f.due = l.now + 1))).length rc).ownBlock.toList ++ [g1, g2])
        have rN : RdM eByte ((Value.slice VA bs.length vc).ownBlock.toList ++ ((Value.slice RA ((l.fly.take k).filter (fun f => !decide (f.due = l.now + 1))).length rc).ownBlock.toList ++ [g1, g2])) H45 DA l.fly[k].data := RdM.of (Own.rd (o44.ext hx45)).2 (fun q e hm => by
          have e1 := (o44.lt q.block (by rw [e]; rfl)).1
          rcases List.mem_append.1 hm with hm | hm
          · have := hob _ hm; omega
          · rcases List.mem_append.1 hm with hm | hm
            · rw [Option.mem_toList] at hm
              have := hor _ hm
              omega
            · have hm : q.block = g1 ∨ q.block = g2 := by simpa using hm
              have := h1.lt
              have := h2.lt
              omega)
        refine seqQ rfl rfl (yAssign (v := .slice _ _ _) rfl rfl) ?_
        refine seqNil ?_
        refine hF13 _ _ ?_; clear hF13
        refine wpRegion ?_
        refine seqQ rfl rfl (yMove (v := .int _ _) rfl rfl) ?_
        refine seqQ rfl rfl (yAdd rfl rfl rfl (by unfold In64; omega)) ?_
        refine seqQ rfl rfl (yAssign (v := .int _ _) rfl rfl) ?_
        refine seqNil ?_
        -- end loop
        refine loopEnd (k + 1, _, _) (by repeat (first | (with_reducible exact Agree.refl _ _) | refine Agree.upd ?_ rfl | refine Agree.over ?_ rfl)) (by dsimp only; omega) ⟨rfl, rfl, rfl, trivial⟩ ⟨hk, (hE.trans xb).mine gb.1 (fun b hb => by have := hob b hb; omega), by have := gb.1.size; omega, (h1.ext xb).keep gb.1 (fun hm => by have := hob _ hm; omega), (h2.ext xb).keep gb.1 (fun hm => by have := hob _ hm; omega), hap.grew (orr.ext xb) gb, ⟨bs ++ [⟨DA, dc, l.fly[k].data⟩], ?_, ob, fun y hy => ?_⟩, ?_⟩
        · dsimp only
          rw [efa, List.map_append, List.map_append, hbs]
          rfl
        · rcases List.mem_append.1 hy with hy | hy
          · exact ⟨((rD y hy).1.tr (Tr.of_ext xb _)).tr tr, (rD y hy).2⟩
          · rcases List.mem_singleton.1 hy with rfl
            exact ⟨rN.tr tr, fun q e => by have := (o44.lt q.block (by rw [show DA = some q from e]; rfl)).1; omega⟩
        · dsimp only
          rw [efr]
          exact (orr.ext xb).grew gb hap
      · skip
        dsimp only at hdu
        have efa : (l.fly.take (k + 1)).filter (fun f => decide (f.due = l.now + 1)) = (l.fly.take k).filter (fun f => decide (f.due = l.now + 1)) := by rw [etk, List.filter_append]; simp [hdu]
        have efr : (l.fly.take (k + 1)).filter (fun f => !decide (f.due = l.now + 1)) = (l.fly.take k).filter (fun f => !decide (f.due = l.now + 1)) ++ [l.fly[k]] := by rw [etk, List.filter_append]; simp [hdu]
        refine wpRegion ?_
        refine seqQ rfl rfl (yMove (v := .slice _ _ _) rfl rfl) ?_
        refine seqQ rfl rfl (yFieldAddr rfl Try.underlying25 rfl Try.sizeOf23 rfl rfl) ?_
        refine seqQ rfl rfl (yLoad rfl Try.underlying23 rfl rfl (h1.cell rfl)) ?_
        refine seqQ rfl rfl (yMove (v := .int _ _) rfl rfl) ?_
        refine seqQ rfl rfl (yIdxP rfl Try.underlying23 Try.sizeOf63 rfl rfl ep rfl hk) ?_
        refine seqQ rfl rfl (yLoadC (cs := eFH.F l.fly[k]) rfl Try.underlying63 rfl Try.sizeOf63 rfl (fun j u hu => hp j u hu)) ?_
        refine seqN rfl rfl (nBuildSliceN (vs := [.agg _]) rfl Try.underlying23 Try.sizeOf63 Try.zeroValue63 rfl rfl rfl rfl rfl) (fun g53 H53 hx53 hB53 hg53 hl53 => ?_)
        -- e slot 54: builtin append t47 t53 : [23, 23]
        have zb := hx53.size
        refine seqE rfl rfl (stepApp (c := eFH) (orr.ext hx53) rfl Try.underlying23 elem_eFHr rfl (by omega) rfl rfl rfl (Blk.rd (c := eFH) (l := [l.fly[k]]) hB53) (by simp; omega) (by omega) ?_)
        intro v54 Hb ob gb
        obtain ⟨RB, rcb, rfl, -⟩ := ob.form
        have hob : ∀ b ∈ (Value.slice RA ((l.fly.take k).filter (fun f => !decide (f.due = l.now + 1))).length rc).ownBlock.toList, H8.size ≤ b ∧ b < Hk.size := fun b hb => by rw [Option.mem_toList] at hb; exact orr.lt b hb
        have tr := Tr.grew gb ((Value.slice VA bs.length vc).ownBlock.toList ++ [g1, g2])
        refine seqQ rfl rfl (yAssign (v := .slice _ _ _) rfl rfl) ?_
        refine seqNil ?_
        refine hF13 _ _ ?_; clear hF13
        refine wpRegion ?_
        refine seqQ rfl rfl (yMove (v := .int _ _) rfl rfl) ?_
        refine seqQ rfl rfl (yAdd rfl rfl rfl (by unfold In64; omega)) ?_
        refine seqQ rfl rfl (yAssign (v := .int _ _) rfl rfl) ?_
        refine seqNil ?_
        -- end loop
        refine loopEnd (k + 1, .slice VA bs.length vc, .slice RB ((l.fly.take k).filter (fun f => !decide (f.due = l.now + 1)) ++ [l.fly[k]]).length rcb) (by repeat (first | (with_reducible exact Agree.refl _ _) | refine Agree.upd ?_ rfl | refine Agree.over ?_ rfl)) (by dsimp only; omega) ⟨rfl, rfl, rfl, trivial⟩ ⟨hk, (hE.trans hx53).mine gb.1 (fun b hb => by have := hob b hb; omega), by have := gb.1.size; omega, (h1.ext hx53).keep gb.1 (fun hm => by have := hob _ hm; omega), (h2.ext hx53).keep gb.1 (fun hm => by have := hob _ hm; omega), (hap.symm.grew (oa.ext hx53) gb).symm, ⟨bs, ?_, (oa.ext hx53).grew gb hap.symm, fun y hy => ?_⟩, ?_⟩
        · dsimp only
          rw [efa]
          exact hbs
        · refine ⟨?_, (rD y hy).2⟩
          exact ((((rD y hy).1.tr (Tr.of_ext hx53 _)).tr (Tr.sub _ (fun b hb => mem_swap hb))).tr tr).tr (Tr.sub _ (fun b hb => mem_swap hb))
        · dsimp only
          rw [efr]
          exact ob
    · skip
      obtain rfl : k = l.fly.length := by dsimp only at hlt; omega
      rw [List.take_length] at hbs orr hrl
      have hmp : ∀ (p : Int → Bool), (l.fly.filter (fun f => p f.due)).map FH.fl = l.lk.fly.filter (fun f => p f.1) := fun p => by
        unfold LH.lk
        rw [List.filter_map]
        rfl
      obtain ⟨t1, t2⟩ := hgood.tw
      have e1 : bs.map BH.data = (l.lk.fly.takeWhile (fun f => decide (f.1 = l.lk.now + 1))).map (·.2) := by
        rw [hbs, ← t1]
        have := congrArg (List.map (·.2)) (hmp (fun x => decide (x = l.now + 1)))
        rw [List.map_map] at this
        exact this
      have e2 : (l.fly.filter (fun f => !decide (f.due = l.now + 1))).map FH.fl = l.lk.fly.dropWhile (fun f => decide (f.1 = l.lk.now + 1)) := by
        rw [← t2]
        exact hmp (fun x => !decide (x = l.now + 1))
      simp only [List.take_length] at rD
      refine wpExit ?_
      refine hF9 _ _ ?_; clear hF9
      refine wpSeq fun F15 hF15 => ?_
      refine wpRegion ?_
      refine seqQ rfl rfl (yMove (v := .slice _ _ _) rfl rfl) ?_
      refine seqQ rfl rfl (yFieldAddr rfl Try.underlying25 rfl Try.sizeOf23 rfl rfl) ?_
      -- e slot None: store T23 t56 t55
      refine seqE0 rfl rfl (stepStore rfl Try.sizeOf23 rfl rfl rfl rfl h1 (Nat.le_of_ble_eq_true rfl) ?_)
      intro H9 h19 hK9
      refine seqNil ?_
      refine hF15 _ _ ?_; clear hF15
      refine wpSeq fun F16 hF16 => ?_
      refine wpRegion ?_
      refine seqQ rfl rfl (yLoadB h19 rfl Try.underlying25 rfl Try.sizeOf25 rfl) ?_
      refine seqQ rfl rfl (yMove (v := .slice _ _ _) rfl rfl) ?_
      -- e slot None: store T25 t2 t57
      refine seqE0 rfl rfl (stepStoreB rfl (by kernel_rfl) rfl rfl rfl (h2.keep hK9 (by simpa using g12.symm)) rfl ?_)
      intro Hz h2z hKz
      refine seqQ rfl rfl (yAssign (v := .slice _ _ _) rfl rfl) ?_
      refine seqNil ?_
      refine hF16 _ _ ?_; clear hF16
      -- ret
      refine wpRet (finR2 rfl (resC Try.underlying25 rfl (by kernel_rfl) rfl h2z) (resT (v := .slice _ _ _) rfl) ?_)
      have hEz := (hE.mine hK9 (by simp; omega)).mine hKz (by simp; omega)
      rw [tickL_ok hbad]
      have tz : ∀ {M : List Nat}, Tr (M ++ [g1, g2]) Hk (M ++ [g1, g2]) Hz := (Tr.store hK9 (by simp)).trans (Tr.store hKz (by simp))
      have oz := (orr.keep hK9 (fun b hb => by have := (orr.lt b hb).1; simp; omega)).keep hKz (fun b hb => by have := (orr.lt b hb).1; simp; omega)
      refine ⟨⟨l.PA, l.pc, l.pat, l.now + 1, l.sent, RA, rc, l.fly.filter (fun f => !decide (f.due = l.now + 1))⟩, VA, vc, bs, by simp only [List.take_length]; rfl, ?_, e1, ⟨h.pat.ext hEz, (Own.rd oz).2, fun x hx => (h.data x (List.mem_filter.1 hx).1).ext hEz, ?_⟩, ⟨?_, fun y hy => ?_, fun y hy p e => by have := (rD y hy).2 p e; omega⟩, hEz⟩
      · rw [Lk.eq_iff]
        exact ⟨rfl, rfl, rfl, e2⟩
      · simp only [List.take_length] at hrc
        exact hrc
      · exact ((oa.keep hK9 (fun b hb => by have := (oa.lt b hb).1; simp; omega)).keep hKz (fun b hb => by have := (oa.lt b hb).1; simp; omega)).mono (by omega)
      · have := (rD y hy).1
        rw [← List.append_assoc] at this
        exact (this.tr tz).rd
end Go.Proofs.Ytckbcfldjniafaa
