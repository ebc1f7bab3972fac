/- Logs: their events. -/
import Derived.Test.YtbanngdijmglbaaM9
namespace Go.Proofs.Ytbanngdijmglbaa
open Go.RowKit

structure EvOwn (out : Value) (b : Nat) (H : Heap) (x : VH) : Prop where
  vals : Own eWV 88 H b (.slice x.VA x.ev.values.length x.vc) x.ev.values
  av : Apart out (.slice x.VA x.ev.values.length x.vc)
set_option maxRecDepth 100000 in
theorem events_c (l : List EH) (A : Option Addr) (ca : Nat) (H : Heap) (h : LogRd H A l) (hs : LogSm l) :
    CallsH Try.prog 22 [.slice A l.length ca] H fun v H' => ∃ evs : List VH, Own eVH 26 H' H.size v evs ∧ evs.map VH.ev = l.map EH.ev ∧ (∀ x ∈ evs, Rd eWV H' x.VA x.ev.values) ∧ Ext H H' := by
  have s1 := hs.1
  refine callsH_of Try.func22 rfl Try.ntmps22 (Nat.le_of_ble_eq_true rfl) ?_
  refine wpSeq fun F1 hF1 => ?_
  refine wpRegion ?_
  refine seqQ rfl rfl (yAssign (v := .slice _ _ _) rfl rfl) ?_
  refine seqNil ?_
  refine hF1 _ _ ?_; clear hF1
  refine wpSeq fun F2 hF2 => ?_
  refine wpRegion ?_
  refine seqQ rfl rfl (yAssign (v := .slice _ _ _) rfl rfl) ?_
  refine seqNil ?_
  refine hF2 _ _ ?_; clear hF2
  refine wpSeq fun F3 hF3 => ?_
  refine wpSeq fun F4 hF4 => ?_
  refine wpRegion ?_
  refine seqQ rfl rfl (yMove (v := .slice _ _ _) rfl rfl) ?_
  refine seqQ rfl rfl (yLen rfl Try.underlying35 rfl) ?_
  refine seqQ rfl rfl (yMove (v := .int _ _) rfl rfl) ?_
  refine seqNil ?_
  refine hF4 _ _ ?_; clear hF4
  -- loop
  refine wpBlock ?_
  refine wpLoopS [3, 5, 8, 9, 10, 11, 12, 13, 14, 15, 16, 17, 18, 19, 20, 21, 22, 23] (fun y : Nat × Value × List VH => [(8, .int .i64 y.1), (3, y.2.1)]) (fun y H' => y.1 ≤ l.length ∧ Ext H H' ∧ Own eVH 26 H' H.size y.2.1 y.2.2 ∧ y.2.2.map VH.ev = (l.take y.1).map EH.ev ∧ ∀ x ∈ y.2.2, EvOwn y.2.1 H.size H' x) (fun y => l.length - y.1) (0, .slice none 0 0, []) ⟨rfl, rfl, trivial⟩ ⟨Nat.zero_le _, Ext.refl _, Own.nil _ _, rfl, (fun x h => by cases h)⟩ ?_
  rintro ⟨i, m, evs⟩ J2 Hi ⟨hi, hEi, om, hmap, hev⟩
  dsimp only at hi om hmap hev
  have hml : evs.length = i := by have := congrArg List.length hmap; simp at this; omega
  obtain ⟨M, mc, rfl, -⟩ := om.form
  have zi := hEi.size
  refine wpSeq fun F5 hF5 => ?_
  refine wpRegion ?_
  refine seqQ rfl rfl (yLss rfl rfl rfl) ?_
  refine seqNil ?_
  refine hF5 _ _ ?_; clear hF5
  refine wpSeq fun F6 hF6 => ?_
  -- if t9
  refine wpIf rfl (fun hlt2 => ?_) (fun hlt2 => ?_)
  · skip
    have hil : i < l.length := by dsimp only at hlt2; omega
    obtain ⟨q, eq, hq⟩ := (h.1.ext hEi).at hil
    obtain ⟨hvi, -⟩ := h.2 _ (List.getElem_mem hil)
    obtain ⟨hsv, -⟩ := hs.2 _ (List.getElem_mem hil)
    have ht1 : (l.take (i + 1)).map EH.ev = (l.take i).map EH.ev ++ [l[i].ev] := by rw [List.take_succ_eq_append_getElem hil, List.map_append]; rfl
    generalize l[i] = x at *
    refine wpSkip ?_
    refine hF6 _ _ ?_; clear hF6
    refine wpSeq fun F7 hF7 => ?_
    refine wpBlock ?_
    refine wpSeq fun F8 hF8 => ?_
    refine wpRegion ?_
    refine seqQ rfl rfl (yIdxP rfl Try.underlying35 Try.sizeOf72 rfl rfl eq rfl hil) ?_
    refine seqQ rfl rfl (yLoadC (cs := eEH.F x) rfl Try.underlying72 rfl Try.sizeOf72 rfl hq) ?_
    refine seqN rfl rfl (nAlloc rfl Try.zeroValue72 rfl) (fun g5 H5 hx5 hB5 hg5 hl5 => ?_)
    -- e slot None: store T72 t5 t11
    refine seqE0 rfl rfl (stepStoreB rfl (by kernel_rfl) rfl rfl rfl hB5 rfl ?_)
    intro H2 h8 hK2
    have z8 := hx5.size
    have z2 := hK2.size
    have hE2 : Ext H H2 := (hEi.trans hx5).mine hK2 (by simp; omega)
    refine seqNil ?_
    refine hF8 _ _ ?_; clear hF8
    refine wpSeq fun F9 hF9 => ?_
    refine wpRegion ?_
    refine seqQ rfl rfl (yFieldAddr rfl Try.underlying72 rfl Try.sizeOf26 rfl rfl) ?_
    refine seqQ rfl rfl (yFieldAddr rfl Try.underlying26 rfl Try.sizeOf24 rfl rfl) ?_
    refine seqQ rfl rfl (yLoad rfl Try.underlying24 rfl rfl (show cellH H2 ((⟨g5, 0, none⟩ : Addr).add 4) = some (.slice x.VA x.ev.values.length x.vc) from h8.cell (j := 4) rfl)) ?_
    -- e slot 15: call F50<slices.Clone[[]farandole/api.Value,farandole/api.Value]> t14
    refine seqE rfl rfl (stepCall rfl Try.call50 rfl ?_)
    refine (cloneV_c x.VA x.vc x.ev.values H2 (hvi.ext hE2) (by omega)).mono ?_
    rintro v Ha ⟨oa, xa⟩
    obtain ⟨Va, va, rfl, -⟩ := oa.form
    refine seqQ rfl rfl (yFieldAddr rfl Try.underlying72 rfl Try.sizeOf26 rfl rfl) ?_
    refine seqQ rfl rfl (yFieldAddr rfl Try.underlying26 rfl Try.sizeOf24 rfl rfl) ?_
    -- e slot None: store T24 t17 t15
    refine seqE0 rfl rfl (stepStore (j := 4) rfl Try.sizeOf24 rfl rfl rfl rfl (h8.ext xa) (show 4 < 6 by decide) ?_)
    intro Hb hb9 hKb
    replace hb9 : Blk Hb g5 (ehF ⟨x.ev, Va, va, x.clk, x.CA, x.cc⟩) 72 := hb9
    have za := xa.size
    have zb := hKb.size
    have l9 := h8.lt
    have hEb : Ext H Hb := (hE2.trans xa).mine hKb (by simp; omega)
    have ob : Own eWV 88 Hb H2.size (.slice Va x.ev.values.length va) x.ev.values := oa.keep hKb (fun j hj => by have := (oa.lt j hj).1; simp; omega)
    have aV : Apart (.slice M evs.length mc) (.slice Va x.ev.values.length va) := apart_lt ob (fun g hg => .inr (by have := (om.lt g hg).2; omega))
    have omb : Own eVH 26 Hb H.size (.slice M evs.length mc) evs := (((om.ext hx5).keep hK2 (fun g hg => by have := (om.lt g hg).2; simp; omega)).ext xa).keep hKb (fun g hg => by have := (om.lt g hg).2; simp; omega)
    have hevb : ∀ y ∈ evs, EvOwn (.slice M evs.length mc) H.size Hb y := fun y hy => ⟨((((hev y hy).vals.ext hx5).keep hK2 (fun g hg => by have := ((hev y hy).vals.lt g hg).2; simp; omega)).ext xa).keep hKb (fun g hg => by have := ((hev y hy).vals.lt g hg).2; simp; omega), (hev y hy).av⟩
    clear oa xa hKb h8 hK2 hB5
    refine seqNil ?_
    refine hF9 _ _ ?_; clear hF9
    refine wpRegion ?_
    refine seqQ rfl rfl (yMove (v := .slice _ _ _) rfl rfl) ?_
    refine seqQ rfl rfl (yFieldAddr rfl Try.underlying72 rfl Try.sizeOf26 rfl rfl) ?_
    refine seqQ rfl rfl (yLoadC (cs := evC x.ev Va va) rfl Try.underlying26 rfl Try.sizeOf26 rfl (fun j u hu => hb9.cell (ev_sub (x := ⟨x.ev, Va, va, x.clk, x.CA, x.cc⟩) hu))) ?_
    refine seqN rfl rfl (nBuildSliceN (vs := [.agg _]) rfl Try.underlying51 Try.sizeOf26 Try.zeroValue26 rfl rfl rfl rfl rfl) (fun g21 H21 hx21 hB21 hg21 hl21 => ?_)
    -- e slot 22: builtin append t18 t21 : [51, 51]
    refine seqE rfl rfl (stepApp (c := eVH) (omb.ext hx21) rfl Try.underlying51 elem_evt rfl (by omega) rfl rfl rfl (Blk.rd (c := eVH) (l := [⟨x.ev, Va, va⟩]) hB21) (by simp only [List.length_singleton]; omega) (by have := hx21.size; omega) ?_)
    intro v' H3 o3 g3
    have hE3 : Ext H H3 := g3.ext (hEb.trans hx21) (fun g hg => (omb.lt g hg).1)
    have hev3 : ∀ y ∈ evs ++ [⟨x.ev, Va, va⟩], EvOwn v' H.size H3 y := fun y hy => by
      rcases List.mem_append.1 hy with hy | hy
      · obtain ⟨o, a⟩ := hevb y hy
        exact ⟨(o.ext hx21).grew g3 a, a.grew (o.ext hx21) g3⟩
      · simp only [List.mem_singleton] at hy
        subst hy
        exact ⟨((ob.mono (by omega)).ext hx21).grew g3 aV, aV.grew (ob.ext hx21) g3⟩
    obtain ⟨A3, c3, rfl, -⟩ := o3.form
    refine seqQ rfl rfl (yAssign (v := .slice _ _ _) rfl rfl) ?_
    refine seqNil ?_
    refine hF7 _ _ ?_; clear hF7
    refine wpRegion ?_
    refine seqQ rfl rfl (yAdd rfl rfl rfl (by unfold In64; omega)) ?_
    refine seqQ rfl rfl (yMove (v := .int _ _) rfl rfl) ?_
    refine seqNil ?_
    -- end loop
    exact loopEnd (i + 1, _, evs ++ [⟨x.ev, Va, va⟩]) (by repeat (first | (with_reducible exact Agree.refl _ _) | refine Agree.upd ?_ rfl | refine Agree.over ?_ rfl)) (by dsimp only; omega) ⟨rfl, rfl, trivial⟩ ⟨hil, hE3, o3, by dsimp only; rw [List.map_append, hmap, ht1]; rfl, hev3⟩
  · skip
    obtain rfl : i = l.length := by dsimp only at hlt2; omega
    rw [List.take_length] at hmap
    refine wpExit ?_
    refine hF3 _ _ ?_; clear hF3
    refine wpSeq fun F10 hF10 => ?_
    refine wpRegion ?_
    refine seqQ rfl rfl (yMove (v := .slice _ _ _) rfl rfl) ?_
    refine seqQ rfl rfl (yAssign (v := .slice _ _ _) rfl rfl) ?_
    refine seqNil ?_
    refine hF10 _ _ ?_; clear hF10
    -- ret
    refine wpRet (fin1 (v := .slice _ _ _) rfl rfl ?_)
    exact ⟨evs, om, hmap, fun x hx => (Own.rd (hev x hx).vals).2, hEi⟩
set_option maxRecDepth 100000 in
theorem revents_c (l : List EH) (A : Option Addr) (ca : Nat) (H : Heap) (h : LogRd H A l) (hs : LogSm l) :
    CallsH Try.prog 23 [.slice A l.length ca] H fun v H' => ∃ evs : List VH, Own eVH 26 H' H.size v evs ∧ evs.map VH.ev = l.map EH.ev ∧ (∀ x ∈ evs, Rd eWV H' x.VA x.ev.values) ∧ Ext H H' := by
  have s1 := hs.1
  refine callsH_of Try.func23 rfl Try.ntmps23 (Nat.le_of_ble_eq_true rfl) ?_
  refine wpSeq fun F1 hF1 => ?_
  refine wpRegion ?_
  refine seqQ rfl rfl (yAssign (v := .slice _ _ _) rfl rfl) ?_
  refine seqNil ?_
  refine hF1 _ _ ?_; clear hF1
  refine wpSeq fun F2 hF2 => ?_
  refine wpRegion ?_
  refine seqQ rfl rfl (yAssign (v := .slice _ _ _) rfl rfl) ?_
  refine seqNil ?_
  refine hF2 _ _ ?_; clear hF2
  refine wpSeq fun F3 hF3 => ?_
  refine wpSeq fun F4 hF4 => ?_
  refine wpRegion ?_
  refine seqQ rfl rfl (yAssign (v := .int _ _) rfl rfl) ?_
  refine seqNil ?_
  refine hF4 _ _ ?_; clear hF4
  -- loop
  refine wpBlock ?_
  refine wpLoopS [3, 4, 5, 6, 7, 8, 9, 10, 11, 12, 13, 14, 15, 16, 17, 18] (fun y : Nat × Value × List VH => [(4, .int .i64 y.1), (3, y.2.1)]) (fun y H' => y.1 ≤ l.length ∧ Ext H H' ∧ Own eVH 26 H' H.size y.2.1 y.2.2 ∧ y.2.2.map VH.ev = (l.take y.1).map EH.ev ∧ ∀ x ∈ y.2.2, Rd eWV H x.VA x.ev.values) (fun y => l.length - y.1) (0, .slice none 0 0, []) ⟨rfl, rfl, trivial⟩ ⟨Nat.zero_le _, Ext.refl _, Own.nil _ _, rfl, (fun x h => by cases h)⟩ ?_
  rintro ⟨i, m, evs⟩ J2 Hi ⟨hi, hEi, om, hmap, hev⟩
  dsimp only at hi om hmap hev
  have hml : evs.length = i := by have := congrArg List.length hmap; simp at this; omega
  obtain ⟨M, mc, rfl, -⟩ := om.form
  have zi := hEi.size
  refine wpSeq fun F5 hF5 => ?_
  refine wpSeq fun F6 hF6 => ?_
  refine wpRegion ?_
  refine seqQ rfl rfl (yMove (v := .int _ _) rfl rfl) ?_
  refine seqQ rfl rfl (yMove (v := .slice _ _ _) rfl rfl) ?_
  refine seqQ rfl rfl (yLen rfl Try.underlying23 rfl) ?_
  refine seqQ rfl rfl (yLss rfl rfl rfl) ?_
  refine seqNil ?_
  refine hF6 _ _ ?_; clear hF6
  -- if t8
  refine wpIf rfl (fun hlt2 => ?_) (fun hlt2 => ?_)
  · skip
    have hil : i < l.length := by dsimp only at hlt2; omega
    obtain ⟨q, eq, hq⟩ := (h.1.ext hEi).at hil
    obtain ⟨hvi, -⟩ := h.2 _ (List.getElem_mem hil)
    have ht1 : (l.take (i + 1)).map EH.ev = (l.take i).map EH.ev ++ [l[i].ev] := by rw [List.take_succ_eq_append_getElem hil, List.map_append]; rfl
    generalize l[i] = x at *
    refine wpSkip ?_
    refine hF5 _ _ ?_; clear hF5
    refine wpSeq fun F7 hF7 => ?_
    refine wpBlock ?_
    refine wpRegion ?_
    refine seqQ rfl rfl (yMove (v := .slice _ _ _) rfl rfl) ?_
    refine seqQ rfl rfl (yMove (v := .slice _ _ _) rfl rfl) ?_
    refine seqQ rfl rfl (yMove (v := .int _ _) rfl rfl) ?_
    refine seqQ rfl rfl (yIdxP rfl Try.underlying23 Try.sizeOf86 rfl rfl eq rfl hil) ?_
    refine seqQ rfl rfl (yFieldAddr rfl Try.underlying86 rfl Try.sizeOf26 rfl rfl) ?_
    refine seqQ rfl rfl (yLoadC (cs := evC x.ev x.VA x.vc) rfl Try.underlying26 rfl Try.sizeOf26 rfl (fun j u hu => hq j u (ev_sub hu))) ?_
    refine seqN rfl rfl (nBuildSliceN (vs := [.agg _]) rfl Try.underlying51 Try.sizeOf26 Try.zeroValue26 rfl rfl rfl rfl rfl) (fun g17 H17 hx17 hB17 hg17 hl17 => ?_)
    -- e slot 18: builtin append t11 t17 : [51, 51]
    refine seqE rfl rfl (stepApp (c := eVH) (om.ext hx17) rfl Try.underlying51 elem_evt rfl (by omega) rfl rfl rfl (Blk.rd (c := eVH) (l := [⟨x.ev, x.VA, x.vc⟩]) hB17) (by simp only [List.length_singleton]; omega) (by have := hx17.size; omega) ?_)
    intro v' H3 o3 g3
    have hE3 : Ext H H3 := g3.ext (hEi.trans hx17) (fun g hg => (om.lt g hg).1)
    obtain ⟨A3, c3, rfl, -⟩ := o3.form
    refine seqQ rfl rfl (yAssign (v := .slice _ _ _) rfl rfl) ?_
    refine seqNil ?_
    refine hF7 _ _ ?_; clear hF7
    refine wpRegion ?_
    refine seqQ rfl rfl (yMove (v := .int _ _) rfl rfl) ?_
    refine seqQ rfl rfl (yAdd rfl rfl rfl (by unfold In64; omega)) ?_
    refine seqQ rfl rfl (yAssign (v := .int _ _) rfl rfl) ?_
    refine seqNil ?_
    -- end loop
    exact loopEnd (i + 1, _, evs ++ [⟨x.ev, x.VA, x.vc⟩]) (by repeat (first | (with_reducible exact Agree.refl _ _) | refine Agree.upd ?_ rfl | refine Agree.over ?_ rfl)) (by dsimp only; omega) ⟨rfl, rfl, trivial⟩ ⟨hil, hE3, o3, by dsimp only; rw [List.map_append, hmap, ht1]; rfl, fun y hy => (by
      rcases List.mem_append.1 hy with hy | hy
      · exact hev y hy
      · simp only [List.mem_singleton] at hy
        subst hy
        exact hvi)⟩
  · skip
    obtain rfl : i = l.length := by dsimp only at hlt2; omega
    rw [List.take_length] at hmap
    refine wpExit ?_
    refine hF3 _ _ ?_; clear hF3
    refine wpSeq fun F8 hF8 => ?_
    refine wpRegion ?_
    refine seqQ rfl rfl (yMove (v := .slice _ _ _) rfl rfl) ?_
    refine seqQ rfl rfl (yAssign (v := .slice _ _ _) rfl rfl) ?_
    refine seqNil ?_
    refine hF8 _ _ ?_; clear hF8
    -- ret
    refine wpRet (fin1 (v := .slice _ _ _) rfl rfl ?_)
    exact ⟨evs, om, hmap, fun x hx => (hev x hx).ext hEi, hEi⟩
end Go.Proofs.Ytbanngdijmglbaa
