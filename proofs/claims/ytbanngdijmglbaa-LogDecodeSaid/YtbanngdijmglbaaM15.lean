/- Package log: Right. -/
import Derived.Test.YtbanngdijmglbaaM14
namespace Go.Proofs.Ytbanngdijmglbaa
open Go.RowKit

def gotN (l : List Ent) (i : Nat) (p : Int) : Nat := ((l.take i).filter fun x => decide (x.ev.send = false ∧ x.ev.peer = p)).length
def beforeC (ls : List (List Ent)) (r i : Nat) : List Int := if i = 0 then List.replicate ls.length 0 else clkAt ls r (i - 1)
def evAt (ls : List (List Ent)) (r i : Nat) : Evt := ((ls.getD r []).getD i ent0).ev
/-- The clock that an entry has to have. -/
def needC (ls : List (List Ent)) (r i : Nat) : Int × List Int := if (evAt ls r i).send = true then tickF (beforeC ls r i) r else receiveF (beforeC ls r i) (sentC (ls.getD (evAt ls r i).peer.toNat []) r (gotN (ls.getD r []) i (evAt ls r i).peer)) r
def rightE (ls : List (List Ent)) (r i : Nat) : Prop := needC ls r i = (0, clkAt ls r i)
instance (ls : List (List Ent)) (r i : Nat) : Decidable (rightE ls r i) := by unfold rightE; infer_instance
def rightL (ls : List (List Ent)) : Prop := (mergeL ls).1 = 0 ∧ MatchP (ls.map fun l => l.map Ent.ev) ∧ ∀ r, r < ls.length → ∀ i, i < (ls.getD r []).length → rightE ls r i
instance (ls : List (List Ent)) : Decidable (rightL ls) := by unfold rightL; infer_instance
set_option maxRecDepth 100000 in
theorem mergeL_valid {ls : List (List Ent)} (h : (mergeL ls).1 = 0) : ValidLogs ls := by
  by_cases hv : ValidLogs ls
  · exact hv
  · rw [mergeL_bad hv] at h
    cases h
set_option maxRecDepth 100000 in
theorem gotN_zero (l : List Ent) (p : Int) : gotN l 0 p = 0 := rfl
set_option maxRecDepth 100000 in
theorem gotN_succ (l : List Ent) {i : Nat} (hi : i < l.length) (p : Int) : gotN l (i + 1) p = gotN l i p + if (l.getD i ent0).ev.send = false ∧ (l.getD i ent0).ev.peer = p then 1 else 0 := by
  have e : l.getD i ent0 = l[i] := by rw [List.getD_eq_getElem?_getD, List.getElem?_eq_getElem hi]; rfl
  unfold gotN
  rw [List.take_succ_eq_append_getElem hi, List.filter_append, List.length_append, e]
  congr 1
  by_cases hc : l[i].ev.send = false ∧ l[i].ev.peer = p
  · rw [if_pos hc, List.filter_cons_of_pos (by simpa using hc)]; rfl
  · rw [if_neg hc, List.filter_cons_of_neg (by simpa using hc)]; rfl
set_option maxRecDepth 100000 in
theorem gotN_le (l : List Ent) (i : Nat) (p : Int) : gotN l i p ≤ i := by
  unfold gotN
  have := List.length_filter_le (fun x : Ent => decide (x.ev.send = false ∧ x.ev.peer = p)) (l.take i)
  rw [List.length_take] at this
  omega
set_option maxRecDepth 100000 in
theorem elem_evs : Elem Try.prog 51 (.slice none 0 0) 1 24 := by unfold Elem; kernel_rfl
structure HsOwn (b : Nat) (H : Heap) (v : Value) (hs : List HH) : Prop where
  own : Own eHH 51 H b v hs
  evs : ∀ x ∈ hs, Own eVH 26 H b (.slice x.A x.l.length x.c) x.l ∧ Apart v (.slice x.A x.l.length x.c)
set_option maxRecDepth 100000 in
theorem entsL_evs (ls : List LH) : (entsL ls).map (fun l => l.map Ent.ev) = ls.map fun L => L.l.map EH.ev := by
  unfold entsL LH.ents
  rw [List.map_map]
  exact List.map_congr_left fun L _ => by simp only [Function.comp]; rw [List.map_map]; rfl
set_option maxRecDepth 100000 in
theorem before_len {ls : List (List Ent)} (hV : ValidLogs ls) {r i : Nat} (hr : r < ls.length) (hi : i < (ls.getD r []).length) : (beforeC ls r i).length = ls.length := by
  unfold beforeC
  split
  · rw [List.length_replicate]
  · have := ((hV.2 r hr).2.2.2 (i - 1) (by omega)).2.2.1
    unfold clkAt
    omega
set_option maxRecDepth 100000 in
theorem sentC_len {l : List Ent} {peer : Int} {n m : Nat} (h : ∀ x ∈ l, x.clk.length ≤ m) : (sentC l peer n).length ≤ m := by
  unfold sentC
  split
  · rename_i x hx
    exact h x (List.mem_filter.1 (List.mem_of_getElem? hx)).1
  · exact Nat.zero_le _
set_option maxRecDepth 100000 in
theorem before_succ {ls : List (List Ent)} {r i : Nat} : beforeC ls r (i + 1) = clkAt ls r i := by
  unfold beforeC
  rw [if_neg (by omega), Nat.add_sub_cancel]
set_option maxRecDepth 100000 in
theorem right_c (ls : List LH) (B : Option Addr) (cb : Nat) (H : Heap) (h : LogsRd H B ls) (hs : LogsSm ls) :
    CallsH Try.prog 26 [.slice B ls.length cb] H fun v H' => v = .bool (decide (rightL (entsL ls))) ∧ Ext H H' := by
  have s1 := hs.1
  have he := entsL_len ls
  refine callsH_of Try.func26 rfl Try.ntmps26 (Nat.le_of_ble_eq_true rfl) ?_
  refine wpSeq fun F1 hF1 => ?_
  refine wpRegion ?_
  refine seqQ rfl rfl (yAssign (v := .bool _) rfl rfl) ?_
  refine seqNil ?_
  refine hF1 _ _ ?_; clear hF1
  refine wpSeq fun F2 hF2 => ?_
  refine wpSeq fun F3 hF3 => ?_
  refine wpRegion ?_
  refine seqQ rfl rfl (yMove (v := .slice _ _ _) rfl rfl) ?_
  -- e slot 20: call F24<farandole/log.Merge> t19
  refine seqE rfl rfl (stepCall rfl Try.call24 rfl ?_)
  refine (merge_c ls B cb H h hs).mono ?_
  rintro v H1 ⟨O, oc, rfl, -, hE⟩
  have z1 := hE.size
  refine seqQ rfl rfl (yMove (v := .tuple _) rfl rfl) ?_
  refine seqQ rfl rfl (yExtract (v := .slice _ _ _) rfl rfl rfl) ?_
  refine seqQ rfl rfl (yExtract (v := .int _ _) rfl rfl rfl) ?_
  refine seqQ rfl rfl (yAssign (v := .slice _ _ _) rfl rfl) ?_
  refine seqQ rfl rfl (yAssign (v := .int _ _) rfl rfl) ?_
  refine seqNil ?_
  refine hF3 _ _ ?_; clear hF3
  refine wpSeq fun F4 hF4 => ?_
  refine wpRegion ?_
  refine seqQ rfl rfl (yMove (v := .int _ _) rfl rfl) ?_
  refine seqQ rfl rfl (yNeq rfl rfl rfl) ?_
  refine seqNil ?_
  refine hF4 _ _ ?_; clear hF4
  -- if t24
  refine wpCond rfl (fun hM => ?_) (fun hM => ?_)
  · skip
    have hM : ¬ (mergeL (entsL ls)).1 = 0 := by simpa using hM
    refine wpSeq fun F5 hF5 => ?_
    refine wpRegion ?_
    refine seqQ rfl rfl (yAssign (v := .bool _) rfl rfl) ?_
    refine seqNil ?_
    refine hF5 _ _ ?_; clear hF5
    -- ret
    refine wpRet (fin1 (v := .bool _) rfl rfl ?_)
    exact ⟨by rw [decide_eq_false (fun h : rightL _ => hM h.1)], hE⟩
  · skip
    have hM : (mergeL (entsL ls)).1 = 0 := by simpa using hM
    have hV := mergeL_valid hM
    have hn6 : 1 ≤ ls.length ∧ ls.length ≤ 6 := by have := hV.1; omega
    have hlen : ∀ L ∈ ls, L.l.length ≤ 1000 := fun L hL => by
      obtain ⟨r, hr, rfl⟩ := List.getElem_of_mem hL
      have := (hV.2 r (by omega)).2.2.1
      rw [entsL_get hr, List.length_map] at this
      exact this
    refine wpSkip ?_
    refine hF2 _ _ ?_; clear hF2
    refine wpSeq fun F6 hF6 => ?_
    refine wpRegion ?_
    refine seqQ rfl rfl (yAssign (v := .slice _ _ _) rfl rfl) ?_
    refine seqNil ?_
    refine hF6 _ _ ?_; clear hF6
    refine wpSeq fun F7 hF7 => ?_
    refine wpSeq fun F8 hF8 => ?_
    refine wpRegion ?_
    refine seqQ rfl rfl (yMove (v := .slice _ _ _) rfl rfl) ?_
    refine seqQ rfl rfl (yLen rfl Try.underlying36 rfl) ?_
    refine seqQ rfl rfl (yMove (v := .int _ _) rfl rfl) ?_
    refine seqNil ?_
    refine hF8 _ _ ?_; clear hF8
    -- loop
    refine wpBlock ?_
    refine wpLoopS [5, 7, 27, 28, 29, 30, 31, 32, 33, 34, 35, 36] (fun x : Nat × Value × List HH => [(27, .int .i64 x.1), (5, x.2.1)]) (fun x H' => x.1 ≤ ls.length ∧ Ext H H' ∧ HsOwn H.size H' x.2.1 x.2.2 ∧ evsL x.2.2 = (ls.take x.1).map (fun L => L.l.map EH.ev)) (fun x => ls.length - x.1) (0, .slice none 0 0, []) ⟨rfl, rfl, trivial⟩ ⟨Nat.zero_le _, hE, ⟨Own.nil _ _, (fun x h => by cases h)⟩, rfl⟩ ?_
    rintro ⟨k, out, hsl⟩ J Hk ⟨hk, hEk, ho, hmap⟩
    dsimp only at hk ho hmap
    have hll : hsl.length = k := by have := congrArg List.length hmap; rw [evsL_len, List.length_map, List.length_take] at this; omega
    obtain ⟨A1, c1, rfl, -⟩ := ho.own.form
    have zk := hEk.size
    refine wpSeq fun F9 hF9 => ?_
    refine wpRegion ?_
    refine seqQ rfl rfl (yLss rfl rfl rfl) ?_
    refine seqNil ?_
    refine hF9 _ _ ?_; clear hF9
    refine wpSeq fun F10 hF10 => ?_
    -- if t28
    refine wpIf rfl (fun hlt => ?_) (fun hlt => ?_)
    · skip
      have hkl : k < ls.length := by dsimp only at hlt; omega
      obtain ⟨p, ep, hp⟩ := (h.1.ext hEk).at1 hkl
      have hL := (h.2 _ (List.getElem_mem hkl)).ext hEk
      have hsL := hs.2 _ (List.getElem_mem hkl)
      have ht1 : (ls.take (k + 1)).map (fun L => L.l.map EH.ev) = (ls.take k).map (fun L => L.l.map EH.ev) ++ [ls[k].l.map EH.ev] := by rw [List.take_succ_eq_append_getElem hkl, List.map_append]; rfl
      generalize ls[k] = L at *
      refine wpSkip ?_
      refine hF10 _ _ ?_; clear hF10
      refine wpSeq fun F11 hF11 => ?_
      refine wpBlock ?_
      refine wpSeq fun F12 hF12 => ?_
      refine wpRegion ?_
      refine seqQ rfl rfl (yIdxP1 rfl Try.underlying36 Try.sizeOf35 rfl rfl ep rfl hkl) ?_
      refine seqQ rfl rfl (yLoad rfl Try.underlying35 rfl rfl (show cellH Hk _ = some (.slice L.A L.l.length L.c) from hp)) ?_
      refine seqQ rfl rfl (yAssign (v := .slice _ _ _) rfl rfl) ?_
      refine seqNil ?_
      refine hF12 _ _ ?_; clear hF12
      refine wpRegion ?_
      refine seqQ rfl rfl (yMove (v := .slice _ _ _) rfl rfl) ?_
      refine seqQ rfl rfl (yMove (v := .slice _ _ _) rfl rfl) ?_
      -- e slot 33: call F22<farandole/log.Events> t32
      refine seqE rfl rfl (stepCall rfl Try.call22 rfl ?_)
      refine (events_c L.l L.A L.c Hk hL hsL).mono ?_
      rintro v H2 ⟨evs, oe, hme, -, x2⟩
      obtain ⟨A2, c2, rfl, -⟩ := oe.form
      have aE : Apart (.slice A1 hsl.length c1) (.slice A2 evs.length c2) := apart_lt oe (fun g hg => .inr (by have := (ho.own.lt g hg).2; omega))
      have z2 := x2.size
      refine seqN rfl rfl (nBuildSlice (vs := [.slice _ _ _]) rfl Try.underlying106 Try.sizeOf51 Try.zeroValue51 rfl rfl rfl rfl) (fun g34 H34 hx34 hB34 hg34 hl34 => ?_)
      -- e slot 35: builtin append t31 t34 : [106, 106]
      refine seqE rfl rfl (stepApp (c := eHH) ((ho.own.ext x2).ext hx34) rfl Try.underlying106 elem_evs rfl (by omega) rfl rfl rfl (Blk.rd (c := eHH) (l := [⟨A2, c2, evs⟩]) hB34) (by simp only [List.length_singleton]; omega) (by have := hx34.size; omega) ?_)
      intro v' H4 o4 g4
      have hE4 : Ext H H4 := g4.ext ((hEk.trans x2).trans hx34) (fun g hg => by have := (ho.own.lt g hg).1; omega)
      have ho4 : HsOwn H.size H4 v' (hsl ++ [⟨A2, c2, evs⟩]) := ⟨o4, fun y hy => by
        rcases List.mem_append.1 hy with hy | hy
        · obtain ⟨o, a⟩ := ho.evs y hy
          exact ⟨((o.ext x2).ext hx34).grew g4 a, a.grew ((o.ext x2).ext hx34) g4⟩
        · simp only [List.mem_singleton] at hy
          subst hy
          exact ⟨((oe.mono (by omega)).ext hx34).grew g4 aE, aE.grew (oe.ext hx34) g4⟩⟩
      obtain ⟨A4, c4, rfl, -⟩ := o4.form
      refine seqQ rfl rfl (yAssign (v := .slice _ _ _) rfl rfl) ?_
      refine seqNil ?_
      refine hF11 _ _ ?_; clear hF11
      refine wpRegion ?_
      refine seqQ rfl rfl (yAdd rfl rfl rfl (by unfold In64; omega)) ?_
      refine seqQ rfl rfl (yMove (v := .int _ _) rfl rfl) ?_
      refine seqNil ?_
      -- end loop
      exact loopEnd (k + 1, _, hsl ++ [⟨A2, c2, evs⟩]) (by repeat (first | (with_reducible exact Agree.refl _ _) | refine Agree.upd ?_ rfl | refine Agree.over ?_ rfl)) (by dsimp only; omega) ⟨rfl, rfl, trivial⟩ ⟨hkl, hE4, ho4, by dsimp only; unfold evsL at hmap ⊢; rw [List.map_append, hmap, ht1]; congr 1; simp only [List.map_cons, List.map_nil, HH.evs, hme]⟩
    · skip
      obtain rfl : k = ls.length := by dsimp only at hlt; omega
      rw [List.take_length, ← entsL_evs] at hmap
      have hlh : ∀ x ∈ hsl, x.l.length ≤ 100000 := fun x hx => by
        obtain ⟨r, hr, rfl⟩ := List.getElem_of_mem hx
        have h1 := evsL_get hr
        rw [hmap] at h1
        have h2 := congrArg List.length h1
        rw [List.length_map] at h2
        have hrl : r < ls.length := by omega
        have h3 := hlen _ (List.getElem_mem hrl)
        have h4 : ((entsL ls).map (fun l => l.map Ent.ev)).getD r [] = (ls[r].l.map EH.ent).map Ent.ev := by
          rw [List.getD_eq_getElem?_getD, List.getElem?_map]
          have := entsL_get hrl
          rw [List.getD_eq_getElem?_getD, List.getElem?_eq_getElem (by rw [he]; exact hrl)] at this
          rw [List.getElem?_eq_getElem (by rw [he]; exact hrl)]
          simp only [Option.map_some, Option.getD_some] at this ⊢
          rw [this]
        rw [h4, List.length_map, List.length_map] at h2
        omega
      refine wpExit ?_
      refine hF7 _ _ ?_; clear hF7
      refine wpSeq fun F13 hF13 => ?_
      refine wpSeq fun F14 hF14 => ?_
      refine wpRegion ?_
      refine seqQ rfl rfl (yMove (v := .slice _ _ _) rfl rfl) ?_
      -- e slot 39: call F54<farandole/word.Matched> t38
      refine seqE rfl rfl (stepCall rfl Try.call54 rfl ?_)
      refine (wmatched_c hsl A1 c1 Hk ⟨(Own.rd ho.own).2, fun x hx => (Own.rd (ho.evs x hx).1).2⟩ (by omega) hlh).mono ?_
      rintro v Hm ⟨n, rfl, xm⟩
      rw [hmap]
      have hEm := hEk.trans xm
      refine seqQ rfl rfl (yMove (v := .tuple _) rfl rfl) ?_
      refine seqQ rfl rfl (yExtract (v := .int _ _) rfl rfl rfl) ?_
      refine seqQ rfl rfl (yExtract (v := .bool _) rfl rfl rfl) ?_
      refine seqQ rfl rfl (yAssign (v := .int _ _) rfl rfl) ?_
      refine seqQ rfl rfl (yAssign (v := .bool _) rfl rfl) ?_
      refine seqNil ?_
      refine hF14 _ _ ?_; clear hF14
      refine wpSeq fun F15 hF15 => ?_
      refine wpRegion ?_
      refine seqQ rfl rfl (yMove (v := .bool _) rfl rfl) ?_
      refine seqQ rfl rfl (yNot rfl rfl) ?_
      refine seqNil ?_
      refine hF15 _ _ ?_; clear hF15
      -- if t43
      refine wpCond rfl (fun hMt => ?_) (fun hMt => ?_)
      · skip
        have hMt : ¬ MatchP ((entsL ls).map fun l => l.map Ent.ev) := by simpa using hMt
        refine wpSeq fun F16 hF16 => ?_
        refine wpRegion ?_
        refine seqQ rfl rfl (yAssign (v := .bool _) rfl rfl) ?_
        refine seqNil ?_
        refine hF16 _ _ ?_; clear hF16
        -- ret
        refine wpRet (fin1 (v := .bool _) rfl rfl ?_)
        exact ⟨by rw [decide_eq_false (fun h : rightL _ => hMt h.2.1)], hEm⟩
      · skip
        have hMt : MatchP ((entsL ls).map fun l => l.map Ent.ev) := by simpa using hMt
        clear ho hmap hlh xm hEk
        refine wpSkip ?_
        refine hF13 _ _ ?_; clear hF13
        refine wpSeq fun F17 hF17 => ?_
        refine wpSeq fun F18 hF18 => ?_
        refine wpRegion ?_
        refine seqQ rfl rfl (yMove (v := .slice _ _ _) rfl rfl) ?_
        refine seqQ rfl rfl (yLen rfl Try.underlying36 rfl) ?_
        refine seqQ rfl rfl (yMove (v := .int _ _) rfl rfl) ?_
        refine seqNil ?_
        refine hF18 _ _ ?_; clear hF18
        -- loop
        refine wpBlock ?_
        refine wpLoopS [2, 10, 11, 12, 13, 15, 16, 17, 46, 47, 48, 49, 50, 51, 52, 53, 54, 55, 56, 57, 58, 59, 60, 61, 62, 63, 64, 65, 66, 67, 68, 69, 70, 71, 72, 73, 74, 75, 76, 77, 78, 79, 80, 81, 82, 83, 84, 85, 86, 87, 88, 89, 90, 91, 92, 93, 94, 95, 96, 97, 98, 99, 100, 101, 102, 103, 104, 105, 106, 107] (fun r : Nat => [(46, .int .i64 r)]) (fun r H' => r ≤ ls.length ∧ Ext H H' ∧ ∀ a, a < r → ∀ i, i < ((entsL ls).getD a []).length → rightE (entsL ls) a i) (fun r => ls.length - r) 0 ⟨rfl, trivial⟩ ⟨Nat.zero_le _, hEm, fun a h => absurd h (by simp)⟩ ?_
        rintro r J2 Hr ⟨hr, hEr, hok⟩
        have zr := hEr.size
        refine wpSeq fun F19 hF19 => ?_
        refine wpRegion ?_
        refine seqQ rfl rfl (yLss rfl rfl rfl) ?_
        refine seqNil ?_
        refine hF19 _ _ ?_; clear hF19
        refine wpSeq fun F20 hF20 => ?_
        -- if t47
        refine wpIf rfl (fun hlr => ?_) (fun hlr => ?_)
        · skip
          have hrl : r < ls.length := by omega
          obtain ⟨p, ep, hp⟩ := (h.1.ext hEr).at1 hrl
          have hL := h.2 _ (List.getElem_mem hrl)
          have hg := entsL_get hrl
          have hls := hlen _ (List.getElem_mem hrl)
          have hVr := hV.2 r (by omega)
          have hsL := hs.2 _ (List.getElem_mem hrl)
          have hca := fun i hi => clk_at (i := i) hrl hi
          generalize ls[r] = L at *
          refine wpSkip ?_
          refine hF20 _ _ ?_; clear hF20
          refine wpSeq fun F21 hF21 => ?_
          refine wpBlock ?_
          refine wpSeq fun F22 hF22 => ?_
          refine wpRegion ?_
          refine seqQ rfl rfl (yMove (v := .int _ _) rfl rfl) ?_
          refine seqQ rfl rfl (yIdxP1 rfl Try.underlying36 Try.sizeOf35 rfl rfl ep rfl hrl) ?_
          refine seqQ rfl rfl (yLoad rfl Try.underlying35 rfl rfl (show cellH Hr _ = some (.slice L.A L.l.length L.c) from hp)) ?_
          refine seqQ rfl rfl (yAssign (v := .int _ _) rfl rfl) ?_
          refine seqQ rfl rfl (yAssign (v := .slice _ _ _) rfl rfl) ?_
          refine seqNil ?_
          refine hF22 _ _ ?_; clear hF22
          refine wpSeq fun F23 hF23 => ?_
          refine wpRegion ?_
          refine seqQ rfl rfl (yMove (v := .slice _ _ _) rfl rfl) ?_
          refine seqQ rfl rfl (yLen rfl Try.underlying36 rfl) ?_
          -- e slot 53: makeSlice T44 t52 t52
          refine seqE rfl rfl (stepMake (c := eInt) (z := 0) rfl Try.underlying44 elem_eInt rfl (by omega) rfl rfl rfl (by omega) ?_)
          intro g53 H53 hx53 hg53 o53
          refine seqQ rfl rfl (yAssign (v := .slice _ _ _) rfl rfl) ?_
          refine seqNil ?_
          refine hF23 _ _ ?_; clear hF23
          refine wpSeq fun F24 hF24 => ?_
          refine wpRegion ?_
          refine seqQ rfl rfl (yMove (v := .slice _ _ _) rfl rfl) ?_
          refine seqQ rfl rfl (yLen rfl Try.underlying36 rfl) ?_
          -- e slot 56: makeSlice T27 t55 t55
          refine seqE rfl rfl (stepMake (c := eInt) (z := 0) rfl Try.underlying27 elem_eInt rfl (by omega) rfl rfl rfl (by omega) ?_)
          intro g56 H56 hx56 hg56 o56
          have z53 := hx53.size
          have z56 := hx56.size
          have l53 : g53 < H53.size := (o53.lt _ rfl).2
          have l56 : g56 < H56.size := (o56.lt _ rfl).2
          have hbz : beforeC (entsL ls) r 0 = List.replicate ls.length 0 := by unfold beforeC; rw [if_pos rfl, he]
          refine seqQ rfl rfl (yAssign (v := .slice _ _ _) rfl rfl) ?_
          refine seqNil ?_
          refine hF24 _ _ ?_; clear hF24
          refine wpSeq fun F25 hF25 => ?_
          refine wpRegion ?_
          refine seqQ rfl rfl (yMove (v := .slice _ _ _) rfl rfl) ?_
          refine seqQ rfl rfl (yLen rfl Try.underlying35 rfl) ?_
          refine seqQ rfl rfl (yMove (v := .int _ _) rfl rfl) ?_
          refine seqNil ?_
          refine hF25 _ _ ?_; clear hF25
          -- loop
          refine wpBlock ?_
          refine wpLoopS [2, 12, 15, 16, 17, 59, 60, 61, 62, 63, 64, 65, 66, 67, 68, 69, 70, 71, 72, 73, 74, 75, 76, 77, 78, 79, 80, 81, 82, 83, 84, 85, 86, 87, 88, 89, 90, 91, 92, 93, 94, 95, 96, 97, 98, 99, 100, 101, 102, 103, 104, 105, 106] (fun x : Nat × Option Addr × Nat × List Nat => [(59, .int .i64 x.1), (12, .slice x.2.1 (beforeC (entsL ls) r x.1).length x.2.2.1)]) (fun x H' => x.1 ≤ L.l.length ∧ Ext H H' ∧ H56.size ≤ H'.size ∧ RdM eInt [g56] H' x.2.1 (beforeC (entsL ls) r x.1) ∧ Own eInt 3 H' H53.size (.slice (some ⟨g56, 0, none⟩) ls.length ls.length) (tI x.2.2.2) ∧ x.2.2.2.length = ls.length ∧ (∀ p, p < ls.length → x.2.2.2.getD p 0 = gotN ((entsL ls).getD r []) x.1 p) ∧ ∀ i, i < x.1 → rightE (entsL ls) r i) (fun x => L.l.length - x.1) (0, some ⟨g53, 0, none⟩, ls.length, List.replicate ls.length 0) ⟨rfl, by dsimp only; rw [hbz, List.length_replicate]; rfl, trivial⟩ ⟨Nat.zero_le _, (hEr.trans hx53).trans hx56, Nat.le_refl _, (by dsimp only; rw [hbz]; exact RdM.of ((Own.rd o53).2.ext hx56) (by rintro q e; obtain rfl := Option.some.inj e; simp; omega)), (by rw [tI_zero]; exact o56), by simp, fun p hp => (by dsimp only; rw [gotN_zero, List.getD_eq_getElem?_getD, List.getElem?_replicate]; split <;> rfl), fun i h => absurd h (by simp)⟩ ?_
          clear o53 o56 hx53 hx56
          rintro ⟨i, NA, nc, got⟩ J3 Hi ⟨hi, hEi, hzi, rN, og, hgl, hgot, hoi⟩
          dsimp only at hi rN og hgl hgot hoi
          refine wpSeq fun F26 hF26 => ?_
          refine wpRegion ?_
          refine seqQ rfl rfl (yLss rfl rfl rfl) ?_
          refine seqNil ?_
          refine hF26 _ _ ?_; clear hF26
          refine wpSeq fun F27 hF27 => ?_
          -- if t60
          refine wpIf rfl (fun hli => ?_) (fun hli => ?_)
          · skip
            have hil : i < L.l.length := by dsimp only at hli; omega
            obtain ⟨q, eq, hq⟩ := (hL.1.ext hEi).at hil
            have hxr := (hL.2 _ (List.getElem_mem hil)).2
            have hxs := hsL.2 _ (List.getElem_mem hil)
            have hxa := hca i hil
            have hgi := getD_ent L.l hil
            have hVi := hVr.2.2.2 i (by rw [hg, List.length_map]; exact hil)
            have hge := gotN_succ (L.l.map EH.ent) (i := i) (by rw [List.length_map]; exact hil)
            rw [hgi] at hge
            rw [← hg] at hgi hge
            have hevi : evAt (entsL ls) r i = L.l[i].ev := by unfold evAt; rw [hgi]; rfl
            generalize L.l[i] = x at *
            replace hge : ∀ p : Int, gotN ((entsL ls).getD r []) (i + 1) p = gotN ((entsL ls).getD r []) i p + if x.ev.send = false ∧ x.ev.peer = p then 1 else 0 := hge
            obtain ⟨hst, hok2, hcl, -, -⟩ := hVi
            rw [hgi] at hst hok2 hcl
            replace hst : standsE x.ev r (entsL ls).length := hst
            replace hok2 : okC x.clk = true := hok2
            replace hcl : ((x.clk.length : Nat) : Int) = ((entsL ls).length : Nat) := hcl
            refine wpSkip ?_
            refine hF27 _ _ ?_; clear hF27
            refine wpSeq fun F28 hF28 => ?_
            refine wpBlock ?_
            refine wpSeq fun F29 hF29 => ?_
            refine wpRegion ?_
            refine seqQ rfl rfl (yIdxP rfl Try.underlying35 Try.sizeOf72 rfl rfl eq rfl hil) ?_
            refine seqQ rfl rfl (yLoadC (cs := eEH.F x) rfl Try.underlying72 rfl Try.sizeOf72 rfl hq) ?_
            refine seqN rfl rfl (nAlloc rfl Try.zeroValue72 rfl) (fun g15 H15 hx15 hB15 hg15 hl15 => ?_)
            -- e slot None: store T72 t15 t62
            refine seqE0 rfl rfl (stepStoreB rfl (by kernel_rfl) rfl rfl rfl hB15 rfl ?_)
            intro H2 h8 hK2
            have z15 := hx15.size
            have z2 := hK2.size
            have hE2 : Ext H H2 := (hEi.trans hx15).mine hK2 (by have := hEi.size; simp; omega)
            have rN2 : RdM eInt [g56] H2 NA (beforeC (entsL ls) r i) := rN.tr (Tr.of_ext (((Ext.refl Hi).trans hx15).mine hK2 (by simp; omega)) _)
            have og2 : Own eInt 3 H2 H53.size (.slice (some ⟨g56, 0, none⟩) ls.length ls.length) (tI got) := (og.ext hx15).keep hK2 (fun b hb => by have := (og.lt b hb).2; simp; omega)
            have hbl := before_len hV (r := r) (i := i) (by omega) (by rw [hg, List.length_map]; exact hil)
            have hbad : ¬ rightE (entsL ls) r i → ¬ rightL (entsL ls) := fun hb hv => hb (hv.2.2 r (by omega) i (by rw [hg, List.length_map]; exact hil))
            refine seqNil ?_
            refine hF29 _ _ ?_; clear hF29
            refine wpSeq fun F30 hF30 => ?_
            refine wpRegion ?_
            refine seqQ rfl rfl (yAssign (v := .int _ _) rfl rfl) ?_
            refine seqNil ?_
            refine hF30 _ _ ?_; clear hF30
            refine wpSeq fun F31 hF31 => ?_
            refine wpSeq fun F32 hF32 => ?_
            refine wpRegion ?_
            refine seqQ rfl rfl (yFieldAddr rfl Try.underlying72 rfl Try.sizeOf26 rfl rfl) ?_
            refine seqQ rfl rfl (yFieldAddr rfl Try.underlying26 rfl Try.sizeOf3 rfl rfl) ?_
            refine seqQ rfl rfl (yLoad rfl Try.underlying3 rfl rfl (show cellH H2 ((⟨g15, 0, none⟩ : Addr).add 2) = some (.int .i64 x.ev.peer) from h8.cell (j := 2) rfl)) ?_
            refine seqQ rfl rfl (yAssign (v := .int _ _) rfl rfl) ?_
            refine seqNil ?_
            refine hF32 _ _ ?_; clear hF32
            refine wpSeq fun F33 hF33 => ?_
            refine wpRegion ?_
            refine seqQ rfl rfl (yFieldAddr rfl Try.underlying72 rfl Try.sizeOf26 rfl rfl) ?_
            refine seqQ rfl rfl (yFieldAddr rfl Try.underlying26 rfl Try.sizeOf4 rfl rfl) ?_
            refine seqQ rfl rfl (yLoad rfl Try.underlying4 rfl rfl (show cellH H2 ((⟨g15, 0, none⟩ : Addr).add 1) = some (.bool x.ev.send) from h8.cell (j := 1) rfl)) ?_
            refine seqNil ?_
            refine hF33 _ _ ?_; clear hF33
            -- if t68
            refine wpCond rfl (fun hsd => ?_) (fun hsd => ?_)
            · skip
              have hsd : x.ev.send = true := hsd
              have hneed : needC (entsL ls) r i = tickF (beforeC (entsL ls) r i) r := by unfold needC; rw [if_pos (by rw [hevi]; exact hsd)]
              refine wpRegion ?_
              refine seqQ rfl rfl (yMove (v := .slice _ _ _) rfl rfl) ?_
              refine seqQ rfl rfl (yMove (v := .int _ _) rfl rfl) ?_
              -- e slot 72: call F36<farandole/vclock.Tick> t70 t71
              refine seqE rfl rfl (stepCall rfl Try.call36 rfl ?_)
              refine (tick_c NA nc _ r H2 rN2.rd (by omega)).mono ?_
              rintro v H3 ⟨x3, s, rfl, oT⟩
              obtain ⟨T, tc, rfl, -⟩ := oT.form
              have rT := (Own.rd oT).2
              have hE3 := hE2.trans x3
              replace h8 := h8.ext x3
              have z3 := x3.size
              have rTM : RdM eInt [g56] H3 T (needC (entsL ls) r i).2 := by rw [hneed]; exact oT.rdM (by simp; omega)
              have ogF := og2.ext x3
              have hglF := hgl
              have hgotF : ∀ p : Nat, p < ls.length → got.getD p 0 = gotN ((entsL ls).getD r []) (i + 1) p := fun p hp => by
                rw [hge, if_neg (by rw [hsd]; simp), Nat.add_zero]
                exact hgot p hp
              have wl : (tickF (beforeC (entsL ls) r i) r).2.length ≤ 1000000000 := by
                unfold tickF
                split
                · simp
                · split
                  · simp
                  · split
                    · simp
                    · rw [List.length_set]; omega
              refine seqQ rfl rfl (yMove (v := .tuple _) rfl rfl) ?_
              refine seqQ rfl rfl (yExtract (v := .slice _ _ _) rfl rfl rfl) ?_
              refine seqQ rfl rfl (yExtract (v := .int _ _) rfl rfl rfl) ?_
              refine seqQ rfl rfl (yAssign (v := .slice _ _ _) rfl rfl) ?_
              refine seqQ rfl rfl (yAssign (v := .int _ _) rfl rfl) ?_
              refine seqNil ?_
              refine hF31 _ _ ?_; clear hF31
              refine wpSeq fun F34 hF34 => ?_
              refine wpRegion ?_
              refine seqQ rfl rfl (yMove (v := .int _ _) rfl rfl) ?_
              refine seqQ rfl rfl (yNeq rfl rfl rfl) ?_
              -- guard t99
              refine seqGB rfl rfl rfl rfl (fun h0 => ?_) (fun h0 => ?_)
              · skip
                have h0 : ¬ (needC (entsL ls) r i).1 = 0 := by rw [hneed]; simpa using h0
                refine seqU rfl rfl ?_
                refine seqU rfl rfl ?_
                refine seqU rfl rfl ?_
                refine seqU rfl rfl ?_
                refine seqU rfl rfl ?_
                refine seqQ rfl rfl (yPickT (v := .bool _) rfl rfl rfl) ?_
                refine seqNil ?_
                refine hF34 _ _ ?_; clear hF34
                -- if t105
                refine wpT rfl ?_
                refine wpSeq fun F35 hF35 => ?_
                refine wpRegion ?_
                refine seqQ rfl rfl (yAssign (v := .bool _) rfl rfl) ?_
                refine seqNil ?_
                refine hF35 _ _ ?_; clear hF35
                -- ret
                refine wpRet (fin1 (v := .bool _) rfl rfl ?_)
                exact ⟨by rw [decide_eq_false (hbad fun h => h0 (by unfold rightE at h; rw [h]))], hE3⟩
              · skip
                have h0 : (needC (entsL ls) r i).1 = 0 := by rw [hneed]; simpa using h0
                refine seqQ rfl rfl (yMove (v := .slice _ _ _) rfl rfl) ?_
                refine seqQ rfl rfl (yFieldAddr rfl Try.underlying72 rfl Try.sizeOf44 rfl rfl) ?_
                refine seqQ rfl rfl (yLoad rfl Try.underlying44 rfl rfl (show cellH H3 ((⟨g15, 0, none⟩ : Addr).add 5) = some (.slice x.CA x.clk.length x.cc) from h8.cell (j := 5) rfl)) ?_
                -- e slot 103: call F34<farandole/vclock.Equal> t100 t102
                refine seqE rfl rfl (stepCall rfl Try.call34 rfl ?_)
                refine (equal_c T x.CA tc x.cc _ x.clk H3 rT (hxr.ext hE3) wl (by omega)).mono ?_
                rintro v Hz ⟨rfl, e⟩
                obtain rfl := e.symm
                clear e
                rw [← hneed] at rT ⊢
                refine seqQ rfl rfl (yNot rfl rfl) ?_
                refine seqQ rfl rfl (yPickF (v := .bool _) rfl rfl rfl) ?_
                refine seqNil ?_
                refine hF34 _ _ ?_; clear hF34
                -- if t105
                refine wpCond rfl (fun hq => ?_) (fun hq => ?_)
                · skip
                  have hq : ¬ (needC (entsL ls) r i).2 = x.clk := by simpa using hq
                  refine wpSeq fun F36 hF36 => ?_
                  refine wpRegion ?_
                  refine seqQ rfl rfl (yAssign (v := .bool _) rfl rfl) ?_
                  refine seqNil ?_
                  refine hF36 _ _ ?_; clear hF36
                  -- ret
                  refine wpRet (fin1 (v := .bool _) rfl rfl ?_)
                  exact ⟨by rw [decide_eq_false (hbad fun h => hq (by unfold rightE at h; rw [h, hxa]))], hE3⟩
                · skip
                  have hq : (needC (entsL ls) r i).2 = x.clk := by simpa using hq
                  have hb1 : beforeC (entsL ls) r (i + 1) = (needC (entsL ls) r i).2 := by rw [before_succ, hxa, hq]
                  refine wpSkip ?_
                  refine hF28 _ _ ?_; clear hF28
                  refine wpRegion ?_
                  refine seqQ rfl rfl (yAdd rfl rfl rfl (by unfold In64; omega)) ?_
                  refine seqQ rfl rfl (yMove (v := .int _ _) rfl rfl) ?_
                  refine seqNil ?_
                  -- end loop
                  refine loopEnd (i + 1, T, tc, got) (by repeat (first | (with_reducible exact Agree.refl _ _) | refine Agree.upd ?_ rfl | refine Agree.over ?_ rfl)) (by dsimp only; omega) ⟨rfl, by dsimp only; rw [hb1]; rfl, trivial⟩ ⟨hil, hE3, (by omega), by dsimp only; rw [hb1]; exact rTM, ogF, hglF, ?_, fun j hj => (by
                    by_cases e : j = i
                    · subst e
                      unfold rightE
                      rw [hxa, ← h0, ← hq]
                    · exact hoi j (by omega))⟩
                  exact hgotF
            · skip
              have hsd : x.ev.send = false := hsd
              obtain ⟨-, hpne, hp0, hpn, -⟩ := hst
              obtain ⟨pn, hpn'⟩ := Int.eq_ofNat_of_zero_le hp0
              have hpl : pn < ls.length := by omega
              have hneed : needC (entsL ls) r i = receiveF (beforeC (entsL ls) r i) (sentC ((entsL ls).getD pn []) r (got.getD pn 0)) r := by
                unfold needC
                rw [if_neg (by rw [hevi, hsd]; simp), hevi, hpn', Int.toNat_natCast, hgot pn hpl]
              obtain ⟨pp, epp, hpp⟩ := (h.1.ext hE2).at1 hpl
              have hLp := (h.2 _ (List.getElem_mem hpl)).ext hE2
              have hgp := entsL_get hpl
              have hlp := hlen _ (List.getElem_mem hpl)
              have hsp := (hs.2 _ (List.getElem_mem hpl)).2
              generalize ls[pn] = Lp at *
              have hgt : pn < (tI got).length := by rw [tI_len]; omega
              obtain ⟨qg, eqg, hqg⟩ := (Own.rd og2).2.at1 hgt
              rw [tI_get] at hqg
              have hgle := gotN_le ((entsL ls).getD r []) i pn
              rw [← hgot pn hpl] at hgle
              rw [hpn']
              refine wpSeq fun F37 hF37 => ?_
              refine wpRegionD Try_mixed [.q, .q, .q, .q, .q, .q, .q, .q, .q, .q, .e, .q, .e, .q, .q, .q, .q, .q] 17 [0, 0, 0, 6, 14, 0, 0, 0, 192, 448, 1022, 0, 4095, 8191, 16383, 16383, 32767, 131071] [] (by kernel_rfl) _ rfl [0, 1, 2, 3, 4, 5, 6, 7, 8, 9, 10, 11, 12, 13, 14, 15, 16] rfl (by simp) ?_
              refine lexQ rfl rfl rfl rfl (fun H hM => (yMove (v := .slice _ _ _) rfl rfl)) ?_
              refine lexQ rfl rfl rfl rfl (fun H hM => (yMove (v := .slice _ _ _) rfl rfl)) ?_
              refine lexQ rfl rfl rfl rfl (fun H hM => (yMove (v := .int _ _) rfl rfl)) ?_
              refine lexQ rfl rfl rfl rfl (fun H hM => (yIdxP1 rfl Try.underlying36 Try.sizeOf35 rfl rfl epp rfl hpl)) ?_
              refine lexQ rfl rfl rfl rfl (fun H hM => (yLoad rfl Try.underlying35 rfl rfl (hM.ext.cell (show cellH H2 _ = some (.slice Lp.A Lp.l.length Lp.c) from hpp)))) ?_
              refine lexQ rfl rfl rfl rfl (fun H hM => (yMove (v := .int _ _) rfl rfl)) ?_
              refine lexQ rfl rfl rfl rfl (fun H hM => (yMove (v := .slice _ _ _) rfl rfl)) ?_
              refine lexQ rfl rfl rfl rfl (fun H hM => (yMove (v := .int _ _) rfl rfl)) ?_
              refine lexQ rfl rfl rfl rfl (fun H hM => (yIdxP1 rfl Try.underlying27 Try.sizeOf3 rfl rfl eqg rfl hpl)) ?_
              refine lexQ rfl rfl rfl rfl (fun H hM => (yLoad rfl Try.underlying3 rfl rfl (hM.ext.cell hqg))) ?_
              -- e slot 86: call F55<farandole/log.sent> t80 t81 t85
              refine lexX0 rfl rfl rfl rfl rfl (by simp) (fun hM86 => stepCall rfl Try.call55 rfl ?_)
              refine (sent_c Lp.l Lp.A Lp.c r (got.getD pn 0) H2 hLp (by omega) (by omega)).mono ?_
              rintro v H3 ⟨⟨C, cc, rfl, rC⟩, x3⟩
              refine ⟨x3, fun _ => ?_⟩
              rw [← hgp] at rC ⊢
              have hsl := sentC_len (l := (entsL ls).getD pn []) (peer := r) (n := got.getD pn 0) (m := 100000) (by rw [hgp]; intro y hy; obtain ⟨z, hz, rfl⟩ := List.mem_map.1 hy; exact (hsp z hz).2)
              refine lexQ rfl rfl rfl rfl (fun H hM => (yMove (v := .int _ _) rfl rfl)) ?_
              -- e slot 88: call F43<farandole/vclock.Receive> t76 t86 t87
              refine lexX0 rfl rfl rfl rfl rfl (by simp) (fun hM88 => stepCall rfl Try.call43 rfl ?_)
              refine (receive_c NA C nc cc _ _ r H3 (rN2.rd.ext x3) rC (by omega) (by omega)).mono ?_
              rintro v H4 ⟨x4, s, rfl, oT⟩
              refine ⟨x4, fun _ => ?_⟩
              obtain ⟨T, tc, rfl, -⟩ := oT.form
              have x24 := x3.trans x4
              have z3 := x3.size
              have z4 := x4.size
              have og4 := og2.ext x24
              obtain ⟨qg2, eqg2, hqg2⟩ := (Own.rd og4).2.at1 hgt
              rw [tI_get] at hqg2
              obtain rfl := Option.some.inj (eqg2.symm.trans eqg)
              refine lexQ rfl rfl rfl rfl (fun H hM => (yMove (v := .tuple _) rfl rfl)) ?_
              refine lexQ rfl rfl rfl rfl (fun H hM => (yExtract (v := .slice _ _ _) rfl rfl rfl)) ?_
              refine lexQ rfl rfl rfl rfl (fun H hM => (yExtract (v := .int _ _) rfl rfl rfl)) ?_
              refine lexQ rfl rfl rfl rfl (fun H hM => (yAssign (v := .slice _ _ _) rfl rfl)) ?_
              -- tail
              refine lexNil0 rfl (fun hM => ?_)
              refine seqQ rfl rfl (yAssign (v := .int _ _) rfl rfl) ?_
              refine seqNil ?_
              refine hF37 _ _ ?_; clear hF37
              refine wpRegion ?_
              refine seqQ rfl rfl (yMove (v := .slice _ _ _) rfl rfl) ?_
              refine seqQ rfl rfl (yMove (v := .int _ _) rfl rfl) ?_
              refine seqQ rfl rfl (yIdxP1 rfl Try.underlying27 Try.sizeOf3 rfl rfl eqg rfl hpl) ?_
              refine seqQ rfl rfl (yLoad rfl Try.underlying3 rfl rfl hqg2) ?_
              refine seqQ rfl rfl (yAdd rfl rfl rfl (by unfold In64; omega)) ?_
              refine seqQ rfl rfl (yIdx1 rfl Try.underlying27 Try.sizeOf3 rfl rfl rfl hpl) ?_
              -- e slot None: store T3 t96 t95
              refine seqE0 rfl rfl (stepStoreOwn (z := ((got.getD pn 0 : Nat) + 1 : Int)) og4 rfl Try.sizeOf3 rfl rfl rfl rfl hgt ?_)
              intro H5 og5 hK5
              rw [show (tI got).set pn ((got.getD pn 0 : Nat) + 1 : Int) = tI (got.set pn (got.getD pn 0 + 1)) from by rw [tI_set]; rfl] at og5
              have z5 := hK5.size
              have hE5 : Ext H H5 := (hE2.trans x24).mine hK5 (by simp; omega)
              replace h8 := (h8.ext x24).keep hK5 (by simp; omega)
              have oT5 : Own eInt 3 H5 H3.size (.slice T (receiveF (beforeC (entsL ls) r i) (sentC ((entsL ls).getD pn []) r (got.getD pn 0)) r).2.length tc) (receiveF (beforeC (entsL ls) r i) (sentC ((entsL ls).getD pn []) r (got.getD pn 0)) r).2 := oT.keep hK5 (fun b hb => by have := (oT.lt b hb).1; simp; omega)
              have rT := (Own.rd oT5).2
              have rTM : RdM eInt [g56] H5 T (needC (entsL ls) r i).2 := by rw [hneed]; exact oT5.rdM (by simp; omega)
              have ogF := og5
              have hglF : (got.set pn (got.getD pn 0 + 1)).length = ls.length := by rw [List.length_set]; exact hgl
              have hgotF : ∀ p : Nat, p < ls.length → (got.set pn (got.getD pn 0 + 1)).getD p 0 = gotN ((entsL ls).getD r []) (i + 1) p := fun p hp => by
                rw [hge]
                by_cases e : pn = p
                · subst e
                  rw [List.getD_eq_getElem?_getD, List.getElem?_set_self (by omega), if_pos (show x.ev.send = false ∧ x.ev.peer = (pn : Int) from ⟨hsd, hpn'⟩), ← hgot pn hp]
                  rfl
                · rw [List.getD_eq_getElem?_getD, List.getElem?_set_ne e, ← List.getD_eq_getElem?_getD, hgot p hp, if_neg (show ¬ (x.ev.send = false ∧ x.ev.peer = (p : Int)) from fun h => e (by have := h.2; omega))]
                  rfl
              have wl : (receiveF (beforeC (entsL ls) r i) (sentC ((entsL ls).getD pn []) r (got.getD pn 0)) r).2.length ≤ 1000000000 := by
                by_cases hj : (joinF (beforeC (entsL ls) r i) (sentC ((entsL ls).getD pn []) r (got.getD pn 0))).1 = 0
                · rw [recvF_tick hj]
                  have := joinF_len (beforeC (entsL ls) r i) (sentC ((entsL ls).getD pn []) r (got.getD pn 0))
                  unfold tickF
                  split
                  · simp
                  · split
                    · simp
                    · split
                      · simp
                      · rw [List.length_set]; omega
                · rw [recvF_err hj]; simp
              refine seqNil ?_
              refine hF31 _ _ ?_; clear hF31
              refine wpSeq fun F38 hF38 => ?_
              refine wpRegion ?_
              refine seqQ rfl rfl (yMove (v := .int _ _) rfl rfl) ?_
              refine seqQ rfl rfl (yNeq rfl rfl rfl) ?_
              -- guard t99
              refine seqGB rfl rfl rfl rfl (fun h0 => ?_) (fun h0 => ?_)
              · skip
                have h0 : ¬ (needC (entsL ls) r i).1 = 0 := by rw [hneed]; simpa using h0
                refine seqU rfl rfl ?_
                refine seqU rfl rfl ?_
                refine seqU rfl rfl ?_
                refine seqU rfl rfl ?_
                refine seqU rfl rfl ?_
                refine seqQ rfl rfl (yPickT (v := .bool _) rfl rfl rfl) ?_
                refine seqNil ?_
                refine hF38 _ _ ?_; clear hF38
                -- if t105
                refine wpT rfl ?_
                refine wpSeq fun F39 hF39 => ?_
                refine wpRegion ?_
                refine seqQ rfl rfl (yAssign (v := .bool _) rfl rfl) ?_
                refine seqNil ?_
                refine hF39 _ _ ?_; clear hF39
                -- ret
                refine wpRet (fin1 (v := .bool _) rfl rfl ?_)
                exact ⟨by rw [decide_eq_false (hbad fun h => h0 (by unfold rightE at h; rw [h]))], hE5⟩
              · skip
                have h0 : (needC (entsL ls) r i).1 = 0 := by rw [hneed]; simpa using h0
                refine seqQ rfl rfl (yMove (v := .slice _ _ _) rfl rfl) ?_
                refine seqQ rfl rfl (yFieldAddr rfl Try.underlying72 rfl Try.sizeOf44 rfl rfl) ?_
                refine seqQ rfl rfl (yLoad rfl Try.underlying44 rfl rfl (show cellH H5 ((⟨g15, 0, none⟩ : Addr).add 5) = some (.slice x.CA x.clk.length x.cc) from h8.cell (j := 5) rfl)) ?_
                -- e slot 103: call F34<farandole/vclock.Equal> t100 t102
                refine seqE rfl rfl (stepCall rfl Try.call34 rfl ?_)
                refine (equal_c T x.CA tc x.cc _ x.clk H5 rT (hxr.ext hE5) wl (by omega)).mono ?_
                rintro v Hz ⟨rfl, e⟩
                obtain rfl := e.symm
                clear e
                rw [← hneed] at rT ⊢
                refine seqQ rfl rfl (yNot rfl rfl) ?_
                refine seqQ rfl rfl (yPickF (v := .bool _) rfl rfl rfl) ?_
                refine seqNil ?_
                refine hF38 _ _ ?_; clear hF38
                -- if t105
                refine wpCond rfl (fun hq => ?_) (fun hq => ?_)
                · skip
                  have hq : ¬ (needC (entsL ls) r i).2 = x.clk := by simpa using hq
                  refine wpSeq fun F40 hF40 => ?_
                  refine wpRegion ?_
                  refine seqQ rfl rfl (yAssign (v := .bool _) rfl rfl) ?_
                  refine seqNil ?_
                  refine hF40 _ _ ?_; clear hF40
                  -- ret
                  refine wpRet (fin1 (v := .bool _) rfl rfl ?_)
                  exact ⟨by rw [decide_eq_false (hbad fun h => hq (by unfold rightE at h; rw [h, hxa]))], hE5⟩
                · skip
                  have hq : (needC (entsL ls) r i).2 = x.clk := by simpa using hq
                  have hb1 : beforeC (entsL ls) r (i + 1) = (needC (entsL ls) r i).2 := by rw [before_succ, hxa, hq]
                  refine wpSkip ?_
                  refine hF28 _ _ ?_; clear hF28
                  refine wpRegion ?_
                  refine seqQ rfl rfl (yAdd rfl rfl rfl (by unfold In64; omega)) ?_
                  refine seqQ rfl rfl (yMove (v := .int _ _) rfl rfl) ?_
                  refine seqNil ?_
                  -- end loop
                  refine loopEnd (i + 1, T, tc, (got.set pn (got.getD pn 0 + 1))) (by repeat (first | (with_reducible exact Agree.refl _ _) | refine Agree.upd ?_ rfl | refine Agree.over ?_ rfl)) (by dsimp only; omega) ⟨rfl, by dsimp only; rw [hb1]; rfl, trivial⟩ ⟨hil, hE5, (by omega), by dsimp only; rw [hb1]; exact rTM, ogF, hglF, ?_, fun j hj => (by
                    by_cases e : j = i
                    · subst e
                      unfold rightE
                      rw [hxa, ← h0, ← hq]
                    · exact hoi j (by omega))⟩
                  exact hgotF
          · skip
            have hiL : i = L.l.length := by dsimp only at hli; omega
            refine wpExit ?_
            refine hF21 _ _ ?_; clear hF21
            refine wpRegion ?_
            refine seqQ rfl rfl (yAdd rfl rfl rfl (by unfold In64; omega)) ?_
            refine seqQ rfl rfl (yMove (v := .int _ _) rfl rfl) ?_
            refine seqNil ?_
            -- end loop
            exact loopEnd (r + 1) (by repeat (first | (with_reducible exact Agree.refl _ _) | refine Agree.upd ?_ rfl | refine Agree.over ?_ rfl)) (by omega) ⟨rfl, trivial⟩ ⟨hrl, hEi, fun a ha j hj => (by
              by_cases e : a = r
              · subst e; exact hoi j (by rw [hg, List.length_map] at hj; omega)
              · exact hok a (by omega) j hj)⟩
        · skip
          obtain rfl : r = ls.length := by omega
          refine wpExit ?_
          refine hF17 _ _ ?_; clear hF17
          refine wpSeq fun F41 hF41 => ?_
          refine wpRegion ?_
          refine seqQ rfl rfl (yAssign (v := .bool _) rfl rfl) ?_
          refine seqNil ?_
          refine hF41 _ _ ?_; clear hF41
          -- ret
          refine wpRet (fin1 (v := .bool _) rfl rfl ?_)
          exact ⟨by rw [decide_eq_true (show rightL (entsL ls) from ⟨hM, hMt, fun a ha => hok a (by omega)⟩)], hEr⟩
end Go.Proofs.Ytbanngdijmglbaa
