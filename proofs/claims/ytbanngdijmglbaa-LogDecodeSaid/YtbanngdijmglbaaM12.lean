/- Logs: merged. -/
import Derived.Test.YtbanngdijmglbaaM11
import Derived.Test.YtbanngdijmglbaaLQ
namespace Go.Proofs.Ytbanngdijmglbaa
open Go.RowKit

/-- The clock of an entry. -/
def clkAt (ls : List (List Ent)) (r i : Nat) : List Int := ((ls.getD r []).getD i ent0).clk
def canB (ls : List (List Ent)) (t : List Nat) (r : Nat) : Bool := decide (t.getD r 0 ≠ (ls.getD r []).length ∧ ∀ k, k < (clkAt ls r (t.getD r 0)).length → k ≠ r → (clkAt ls r (t.getD r 0)).getD k 0 ≤ (t.getD k 0 : Nat))
def nextR (ls : List (List Ent)) (t : List Nat) : Option Nat := (List.range ls.length).find? (canB ls t)
set_option maxRecDepth 100000 in
theorem next_none {ls : List (List Ent)} {t : List Nat} (h : ∀ r, r < ls.length → canB ls t r = false) : nextR ls t = none := by
  unfold nextR
  rw [List.find?_eq_none]
  intro x hx
  rw [h x (List.mem_range.1 hx)]
  simp
set_option maxRecDepth 100000 in
theorem next_some {ls : List (List Ent)} {t : List Nat} {r : Nat} (hr : r < ls.length) (hc : canB ls t r = true) (h : ∀ j, j < r → canB ls t j = false) : nextR ls t = some r := by
  unfold nextR
  rw [List.find?_range_eq_some]
  exact ⟨hc, List.mem_range.2 hr, fun j hj => by rw [h j hj]; rfl⟩
set_option maxRecDepth 100000 in
theorem next_of {ls : List (List Ent)} {t : List Nat} {r : Nat} (h : nextR ls t = some r) : r < ls.length ∧ canB ls t r = true ∧ ∀ j, j < r → canB ls t j = false := by
  unfold nextR at h
  rw [List.find?_range_eq_some] at h
  exact ⟨List.mem_range.1 h.2.1, h.1, fun j hj => by simpa using h.2.2 j hj⟩
def mergeGo (ls : List (List Ent)) : Nat → List Nat → List (Nat × Nat) → Bool × List (Nat × Nat)
  | 0, _, o => (true, o)
  | n + 1, t, o => match nextR ls t with
    | none => (false, o)
    | some r => mergeGo ls n (t.set r (t.getD r 0 + 1)) (o ++ [(r, t.getD r 0)])
def total (ls : List (List Ent)) : Nat := (ls.map List.length).sum
def mergeL (ls : List (List Ent)) : Int × List (Nat × Nat) := if ValidLogs ls then (match mergeGo ls (total ls) (List.replicate ls.length 0) [] with | (true, o) => (0, o) | (false, o) => (22, o)) else (1, [])
set_option maxRecDepth 100000 in
theorem mergeL_bad {ls : List (List Ent)} (h : ¬ ValidLogs ls) : mergeL ls = (1, []) := if_neg h
set_option maxRecDepth 100000 in
theorem mergeL_ok {ls : List (List Ent)} {o : List (Nat × Nat)} (h : ValidLogs ls) (e : mergeGo ls (total ls) (List.replicate ls.length 0) [] = (true, o)) : mergeL ls = (0, o) := by unfold mergeL; rw [if_pos h, e]
set_option maxRecDepth 100000 in
theorem mergeL_gap {ls : List (List Ent)} {o : List (Nat × Nat)} (h : ValidLogs ls) (e : mergeGo ls (total ls) (List.replicate ls.length 0) [] = (false, o)) : mergeL ls = (22, o) := by unfold mergeL; rw [if_pos h, e]
set_option maxRecDepth 100000 in
theorem total_lens (ls : List LH) : total (entsL ls) = lens ls := by
  unfold total entsL lens LH.ents
  rw [List.map_map]
  congr 1
  exact List.map_congr_left fun L _ => by simp
set_option maxRecDepth 100000 in
theorem lens_bound {m : Nat} : ∀ {ls : List LH}, (∀ L ∈ ls, L.l.length ≤ m) → lens ls ≤ ls.length * m
  | [], _ => Nat.zero_le _
  | L :: ls, h => by
    have ih := lens_bound (ls := ls) (fun L hL => h L (List.mem_cons_of_mem _ hL))
    have h0 := h L (List.mem_cons_self)
    unfold lens at ih ⊢
    rw [List.map_cons, List.sum_cons, List.length_cons, Nat.add_mul]
    omega
def ePl : El (Nat × Nat) := ⟨fun x => [.int .i64 x.1, .int .i64 x.2], 2, by omega, fun _ => rfl, fun x u hu => by
  simp only [List.mem_cons, List.not_mem_nil, or_false] at hu
  rcases hu with rfl | rfl <;> rfl⟩
set_option maxRecDepth 100000 in
theorem elem_pl : Elem Try.prog 64 (.agg #[.int .i64 0, .int .i64 0]) 2 16 := by unfold Elem; kernel_rfl
set_option maxRecDepth 100000 in
theorem elem_plR : Elem Try.prog 63 (.agg #[.int .i64 0, .int .i64 0]) 2 16 := by unfold Elem; kernel_rfl
def tI (t : List Nat) : List Int := t.map fun n : Nat => (n : Int)
set_option maxRecDepth 100000 in
theorem tI_len (t : List Nat) : (tI t).length = t.length := List.length_map _
set_option maxRecDepth 100000 in
theorem tI_get (t : List Nat) {r : Nat} (hr : r < (tI t).length) : (tI t)[r] = ((t.getD r 0 : Nat) : Int) := by
  have : r < t.length := by rwa [tI_len] at hr
  simp only [tI, List.getElem_map]
  rw [List.getD_eq_getElem?_getD, List.getElem?_eq_getElem this]
  rfl
set_option maxRecDepth 100000 in
theorem tI_set (t : List Nat) (r n : Nat) : tI (t.set r n) = (tI t).set r (n : Int) := by
  unfold tI
  rw [List.map_set]
set_option maxRecDepth 100000 in
theorem tI_zero (n : Nat) : tI (List.replicate n 0) = List.replicate n 0 := by
  unfold tI
  rw [List.map_replicate]
  rfl
set_option maxRecDepth 100000 in
theorem clk_at {ls : List LH} {r i : Nat} (hr : r < ls.length) (hi : i < ls[r].l.length) : clkAt (entsL ls) r i = ls[r].l[i].clk := by
  unfold clkAt
  rw [entsL_get hr, getD_ent _ hi]
  rfl
set_option maxRecDepth 100000 in
theorem merge_c (ls : List LH) (B : Option Addr) (cb : Nat) (H : Heap) (h : LogsRd H B ls) (hs : LogsSm ls) :
    CallsH Try.prog 24 [.slice B ls.length cb] H fun v H' => ∃ O oc, v = .tuple #[.slice O (mergeL (entsL ls)).2.length oc, .int .i64 (mergeL (entsL ls)).1] ∧ Own ePl 64 H' H.size (.slice O (mergeL (entsL ls)).2.length oc) (mergeL (entsL ls)).2 ∧ Ext H H' := by
  have s1 := hs.1
  have he := entsL_len ls
  refine callsH_of Try.func24 rfl Try.ntmps24 (Nat.le_of_ble_eq_true rfl) ?_
  refine wpSeq fun F1 hF1 => ?_
  refine wpRegion ?_
  refine seqQ rfl rfl (yAssign (v := .slice _ _ _) rfl rfl) ?_
  refine seqQ rfl rfl (yAssign (v := .int _ _) rfl rfl) ?_
  refine seqNil ?_
  refine hF1 _ _ ?_; clear hF1
  refine wpScope ?_
  refine wpSeq fun F2 hF2 => ?_
  refine wpSeq fun F3 hF3 => ?_
  refine wpRegion ?_
  refine seqQ rfl rfl (yMove (v := .slice _ _ _) rfl rfl) ?_
  -- e slot 14: call F51<farandole/log.valid> t13
  refine seqE rfl rfl (stepCall rfl Try.call51 rfl ?_)
  refine (validLogs_c ls B cb H h hs).mono ?_
  rintro v H1 ⟨rfl, hE⟩
  have z1 := hE.size
  refine seqQ rfl rfl (yNot rfl rfl) ?_
  refine seqNil ?_
  refine hF3 _ _ ?_; clear hF3
  -- if t15
  refine wpCond rfl (fun hV => ?_) (fun hV => ?_)
  · skip
    have hV : ¬ ValidLogs (entsL ls) := by simpa using hV
    refine wpSeq fun F4 hF4 => ?_
    refine wpRegion ?_
    refine seqQ rfl rfl (yAssign (v := .slice _ _ _) rfl rfl) ?_
    refine seqQ rfl rfl (yAssign (v := .int _ _) rfl rfl) ?_
    refine seqNil ?_
    refine hF4 _ _ ?_; clear hF4
    -- ret
    refine wpRet (fin2 (v := .slice _ _ _) (v' := .int _ _) rfl rfl rfl ?_)
    rw [mergeL_bad hV]
    exact ⟨none, 0, rfl, Own.nil _ _, hE⟩
  · skip
    have hV : ValidLogs (entsL ls) := by simpa using hV
    have hn6 : 1 ≤ ls.length ∧ ls.length ≤ 6 := by have := hV.1; omega
    have hlen : ∀ L ∈ ls, L.l.length ≤ 1000 := fun L hL => by
      obtain ⟨r, hr, rfl⟩ := List.getElem_of_mem hL
      have := (hV.2 r (by omega)).2.2.1
      rw [entsL_get hr, List.length_map] at this
      exact this
    have hclk : ∀ (r i : Nat) (hr : r < ls.length) (hi : i < ls[r].l.length), ls[r].l[i].clk.length = ls.length := fun r i hr hi => by
      have := ((hV.2 r (by omega)).2.2.2 i (by rw [entsL_get hr, List.length_map]; exact hi)).2.2.1
      rw [entsL_get hr, getD_ent _ hi] at this
      change ((ls[r].l[i].clk.length : Nat) : Int) = _ at this
      omega
    refine wpSkip ?_
    refine hF2 _ _ ?_; clear hF2
    refine wpSeq fun F5 hF5 => ?_
    refine wpRegion ?_
    refine seqQ rfl rfl (yMove (v := .slice _ _ _) rfl rfl) ?_
    refine seqQ rfl rfl (yLen rfl Try.underlying36 rfl) ?_
    -- e slot 18: makeSlice T27 t17 t17
    refine seqE rfl rfl (stepMake (c := eInt) (z := 0) rfl Try.underlying27 elem_eInt rfl (by omega) rfl rfl rfl (by omega) ?_)
    intro g H2 hx2 hg2 ot
    refine seqQ rfl rfl (yAssign (v := .slice _ _ _) rfl rfl) ?_
    refine seqNil ?_
    refine hF5 _ _ ?_; clear hF5
    refine wpSeq fun F6 hF6 => ?_
    refine wpRegion ?_
    refine seqQ rfl rfl (yAssign (v := .int _ _) rfl rfl) ?_
    refine seqNil ?_
    refine hF6 _ _ ?_; clear hF6
    refine wpSeq fun F7 hF7 => ?_
    refine wpSeq fun F8 hF8 => ?_
    refine wpRegion ?_
    refine seqQ rfl rfl (yMove (v := .slice _ _ _) rfl rfl) ?_
    refine seqQ rfl rfl (yLen rfl Try.underlying36 rfl) ?_
    refine seqQ rfl rfl (yMove (v := .int _ _) rfl rfl) ?_
    refine seqNil ?_
    refine hF8 _ _ ?_; clear hF8
    -- loop
    refine wpBlock ?_
    refine wpLoopS [5, 7, 21, 22, 23, 24, 25, 26, 27, 28, 29] (fun k : Nat => [(21, .int .i64 k), (5, .int .i64 (lens (ls.take k)))]) (fun k H' => k ≤ ls.length ∧ H' = H2) (fun k => ls.length - k) 0 ⟨rfl, rfl, trivial⟩ ⟨Nat.zero_le _, rfl⟩ ?_
    rintro k J Hk ⟨hk, rfl⟩
    refine wpSeq fun F9 hF9 => ?_
    refine wpRegion ?_
    refine seqQ rfl rfl (yLss rfl rfl rfl) ?_
    refine seqNil ?_
    refine hF9 _ _ ?_; clear hF9
    refine wpSeq fun F10 hF10 => ?_
    -- if t22
    refine wpIf rfl (fun hlt => ?_) (fun hlt => ?_)
    · skip
      have hkl : k < ls.length := by omega
      obtain ⟨p, ep, hp⟩ := (h.1.ext (hE.trans hx2)).at1 hkl
      have t1 := lens_take hkl
      have t2 := lens_bound (fun L hL => hlen L (List.mem_of_mem_take hL : L ∈ ls)) (ls := ls.take k) (m := 1000)
      have t3 := hlen _ (List.getElem_mem hkl)
      have t4 : (ls.take k).length = k := by rw [List.length_take]; omega
      rw [t4] at t2
      generalize ls[k] = L at *
      refine wpSkip ?_
      refine hF10 _ _ ?_; clear hF10
      refine wpSeq fun F11 hF11 => ?_
      refine wpBlock ?_
      refine wpSeq fun F12 hF12 => ?_
      refine wpRegion ?_
      refine seqQ rfl rfl (yIdxP1 rfl Try.underlying36 Try.sizeOf35 rfl rfl ep rfl hkl) ?_
      refine seqQ rfl rfl (yLoad rfl Try.underlying35 rfl rfl (show cellH _ _ = some (.slice L.A L.l.length L.c) from hp)) ?_
      refine seqQ rfl rfl (yAssign (v := .slice _ _ _) rfl rfl) ?_
      refine seqNil ?_
      refine hF12 _ _ ?_; clear hF12
      refine wpRegion ?_
      refine seqQ rfl rfl (yMove (v := .int _ _) rfl rfl) ?_
      refine seqQ rfl rfl (yMove (v := .slice _ _ _) rfl rfl) ?_
      refine seqQ rfl rfl (yLen rfl Try.underlying35 rfl) ?_
      refine seqQ rfl rfl (yAddE rfl rfl rfl (by unfold In64; omega) (show ((lens (ls.take k) : Nat) : Int) + (L.l.length : Int) = ((lens (ls.take (k + 1)) : Nat) : Int) by omega)) ?_
      refine seqQ rfl rfl (yAssign (v := .int _ _) rfl rfl) ?_
      refine seqNil ?_
      refine hF11 _ _ ?_; clear hF11
      refine wpRegion ?_
      refine seqQ rfl rfl (yAdd rfl rfl rfl (by unfold In64; omega)) ?_
      refine seqQ rfl rfl (yMove (v := .int _ _) rfl rfl) ?_
      refine seqNil ?_
      -- end loop
      exact loopEnd (k + 1) (by repeat (first | (with_reducible exact Agree.refl _ _) | refine Agree.upd ?_ rfl | refine Agree.over ?_ rfl)) (by omega) ⟨rfl, rfl, trivial⟩ ⟨hkl, rfl⟩
    · skip
      obtain rfl : k = ls.length := by omega
      rw [List.take_length, ← total_lens]
      have htot : total (entsL ls) ≤ 6000 := by
        rw [total_lens]
        have := lens_bound hlen
        have : ls.length * 1000 ≤ 6 * 1000 := Nat.mul_le_mul_right _ hn6.2
        omega
      refine wpExit ?_
      refine hF7 _ _ ?_; clear hF7
      refine wpSeq fun F13 hF13 => ?_
      refine wpRegion ?_
      refine seqQ rfl rfl (yAssign (v := .slice _ _ _) rfl rfl) ?_
      refine seqNil ?_
      refine hF13 _ _ ?_; clear hF13
      refine wpSeq fun F14 hF14 => ?_
      refine wpLabel ?_
      refine hF14 _ _ ?_; clear hF14
      refine wpSeq fun F15 hF15 => ?_
      -- loop
      refine wpBlock ?_
      refine wpLoopS [2, 3, 5, 8, 9, 10, 11, 12, 30, 31, 32, 33, 34, 35, 36, 37, 38, 39, 40, 41, 42, 43, 44, 45, 46, 47, 48, 49, 50, 51, 52, 53, 54, 55, 56, 57, 58, 59, 60, 61, 62, 63, 64, 65, 66, 67, 68, 69, 70, 71, 72, 73, 74, 75, 76, 77, 78, 79, 80, 81, 82, 83, 84, 85, 86, 87, 88, 89, 90] (fun x : Nat × List Nat × List (Nat × Nat) × Value => [(5, .int .i64 x.1), (8, x.2.2.2)]) (fun x H' => x.1 ≤ total (entsL ls) ∧ Ext H H' ∧ Hk.size ≤ H'.size ∧ x.2.1.length = ls.length ∧ (∀ r, x.2.1.getD r 0 ≤ ((entsL ls).getD r []).length) ∧ x.2.2.1.length = total (entsL ls) - x.1 ∧ mergeGo (entsL ls) x.1 x.2.1 x.2.2.1 = mergeGo (entsL ls) (total (entsL ls)) (List.replicate (entsL ls).length 0) [] ∧ Own eInt 3 H' H1.size (.slice (some ⟨g, 0, none⟩) ls.length ls.length) (tI x.2.1) ∧ Own ePl 64 H' Hk.size x.2.2.2 x.2.2.1) (fun x => x.1) (total (entsL ls), List.replicate ls.length 0, [], .slice none 0 0) ⟨rfl, rfl, trivial⟩ ⟨Nat.le_refl _, hE.trans hx2, Nat.le_refl _, by simp, fun r => (by simp only [List.getD_eq_getElem?_getD, List.getElem?_replicate]; split <;> simp), by simp, by rw [he], by rw [tI_zero]; exact ot, Own.nil _ _⟩ ?_
      have zk : g < Hk.size := (ot.lt g rfl).2
      have z12 := hx2.size
      clear ot
      rintro ⟨n, t, o, out⟩ J2 Hn ⟨hn, hEn, hzn, htl, htb, hol, hgo, ot, oo⟩
      dsimp only at hn htl htb hol hgo ot oo
      obtain ⟨O, oc, rfl, -⟩ := oo.form
      have zn := hEn.size
      have rt := (Own.rd ot).2
      refine wpSeq fun F16 hF16 => ?_
      refine wpSeq fun F17 hF17 => ?_
      refine wpRegion ?_
      refine seqQ rfl rfl (yMove (v := .int _ _) rfl rfl) ?_
      refine seqQ rfl rfl (yGtr rfl rfl rfl) ?_
      refine seqNil ?_
      refine hF17 _ _ ?_; clear hF17
      -- if t31
      refine wpIf rfl (fun hleft => ?_) (fun hleft => ?_)
      · skip
        have hn0 : 0 < n := by dsimp only at hleft; omega
        obtain ⟨n', rfl⟩ : ∃ n', n = n' + 1 := ⟨n - 1, by omega⟩
        refine wpSkip ?_
        refine hF16 _ _ ?_; clear hF16
        refine wpSeq fun F18 hF18 => ?_
        refine wpBlock ?_
        refine wpScope ?_
        refine wpSeq fun F19 hF19 => ?_
        refine wpLabel ?_
        refine hF19 _ _ ?_; clear hF19
        refine wpSeq fun F20 hF20 => ?_
        refine wpSeq fun F21 hF21 => ?_
        refine wpRegion ?_
        refine seqQ rfl rfl (yMove (v := .slice _ _ _) rfl rfl) ?_
        refine seqQ rfl rfl (yLen rfl Try.underlying36 rfl) ?_
        refine seqQ rfl rfl (yMove (v := .int _ _) rfl rfl) ?_
        refine seqNil ?_
        refine hF21 _ _ ?_; clear hF21
        -- loop
        refine wpBlock ?_
        refine wpLoopS [8, 9, 10, 11, 12, 36, 37, 38, 39, 40, 41, 42, 43, 44, 45, 46, 47, 48, 49, 50, 51, 52, 53, 54, 55, 56, 57, 58, 59, 60, 61, 62, 63, 64, 65, 66, 67, 68, 69, 70, 71, 72, 73, 74, 75, 76, 77, 78, 79, 80, 81, 82, 83, 84, 85, 86, 87, 88, 89] (fun r : Nat => [(36, .int .i64 r), (8, .slice O o.length oc)]) (fun r H' => r ≤ ls.length ∧ H' = Hn ∧ ∀ j, j < r → canB (entsL ls) t j = false) (fun r => ls.length - r) 0 ⟨rfl, rfl, trivial⟩ ⟨Nat.zero_le _, rfl, fun j h => absurd h (by simp)⟩ ?_
        rintro r J3 Hr ⟨hr, e, hno⟩
        obtain rfl := e.symm
        clear e
        refine wpSeq fun F22 hF22 => ?_
        refine wpRegion ?_
        refine seqQ rfl rfl (yLss rfl rfl rfl) ?_
        refine seqNil ?_
        refine hF22 _ _ ?_; clear hF22
        refine wpSeq fun F23 hF23 => ?_
        -- if t37
        refine wpIf rfl (fun hlr => ?_) (fun hlr => ?_)
        · skip
          have hrl : r < ls.length := by omega
          obtain ⟨p, ep, hp⟩ := (h.1.ext hEn).at1 hrl
          have hL := (h.2 _ (List.getElem_mem hrl)).ext hEn
          have hg := entsL_get hrl
          have hck := fun i hi => hclk r i hrl hi
          have hca := fun i hi => clk_at (i := i) hrl hi
          have hls := hlen _ (List.getElem_mem hrl)
          have hbr := htb r
          have hrt : r < (tI t).length := by rw [tI_len]; omega
          obtain ⟨q, eq, hq⟩ := rt.at1 hrt
          rw [tI_get] at hq
          rw [hg, List.length_map] at hbr
          have hcb : canB (entsL ls) t r = decide (t.getD r 0 ≠ ls[r].l.length ∧ ∀ k, k < (clkAt (entsL ls) r (t.getD r 0)).length → k ≠ r → (clkAt (entsL ls) r (t.getD r 0)).getD k 0 ≤ (t.getD k 0 : Nat)) := by
            unfold canB
            rw [hg, List.length_map]
          generalize ls[r] = L at *
          obtain ⟨i, hi⟩ : ∃ i, i = t.getD r 0 := ⟨_, rfl⟩
          rw [← hi] at hq hbr hcb
          refine wpSkip ?_
          refine hF23 _ _ ?_; clear hF23
          refine wpSeq fun F24 hF24 => ?_
          refine wpBlock ?_
          refine wpSeq fun F25 hF25 => ?_
          refine wpRegion ?_
          refine seqQ rfl rfl (yMove (v := .int _ _) rfl rfl) ?_
          refine seqQ rfl rfl (yIdxP1 rfl Try.underlying36 Try.sizeOf35 rfl rfl ep rfl hrl) ?_
          refine seqQ rfl rfl (yLoad rfl Try.underlying35 rfl rfl (show cellH _ _ = some (.slice L.A L.l.length L.c) from hp)) ?_
          refine seqQ rfl rfl (yAssign (v := .int _ _) rfl rfl) ?_
          refine seqQ rfl rfl (yAssign (v := .slice _ _ _) rfl rfl) ?_
          refine seqNil ?_
          refine hF25 _ _ ?_; clear hF25
          refine wpSeq fun F26 hF26 => ?_
          refine wpSeq fun F27 hF27 => ?_
          refine wpRegion ?_
          refine seqQ rfl rfl (yMove (v := .slice _ _ _) rfl rfl) ?_
          refine seqQ rfl rfl (yMove (v := .int _ _) rfl rfl) ?_
          refine seqQ rfl rfl (yIdxP1 rfl Try.underlying27 Try.sizeOf3 rfl rfl eq rfl hrl) ?_
          refine seqQ rfl rfl (yLoad rfl Try.underlying3 rfl rfl hq) ?_
          refine seqQ rfl rfl (yMove (v := .slice _ _ _) rfl rfl) ?_
          refine seqQ rfl rfl (yLen rfl Try.underlying35 rfl) ?_
          refine seqQ rfl rfl (yEql rfl rfl rfl) ?_
          refine seqNil ?_
          refine hF27 _ _ ?_; clear hF27
          -- if t47
          refine wpCond rfl (fun h47 => ?_) (fun h47 => ?_)
          · skip
            have h47 : i = L.l.length := by simp at h47; omega
            refine wpExit ?_
            refine hF24 _ _ ?_; clear hF24
            refine wpRegion ?_
            refine seqQ rfl rfl (yAdd rfl rfl rfl (by unfold In64; omega)) ?_
            refine seqQ rfl rfl (yMove (v := .int _ _) rfl rfl) ?_
            refine seqNil ?_
            -- end loop
            exact loopEnd (r + 1) (by repeat (first | (with_reducible exact Agree.refl _ _) | refine Agree.upd ?_ rfl | refine Agree.over ?_ rfl)) (by omega) ⟨rfl, rfl, trivial⟩ ⟨hrl, rfl, fun j hj => (by
              by_cases e : j = r
              · subst e; rw [hcb]; exact decide_eq_false fun h => h.1 h47
              · exact hno j (by omega))⟩
          · skip
            have h47 : ¬ i = L.l.length := by simp at h47; omega
            have hil : i < L.l.length := by omega
            obtain ⟨pe, epe, hpe⟩ := hL.1.at hil
            have hxr := (hL.2 _ (List.getElem_mem hil)).2
            have hxc := hck i hil
            have hxa := hca i hil
            generalize L.l[i] = x at *
            rw [hxa] at hcb
            refine wpSkip ?_
            refine hF26 _ _ ?_; clear hF26
            refine wpSeq fun F28 hF28 => ?_
            refine wpSeq fun F29 hF29 => ?_
            refine wpRegion ?_
            refine seqQ rfl rfl (yMove (v := .slice _ _ _) rfl rfl) ?_
            refine seqQ rfl rfl (yMove (v := .slice _ _ _) rfl rfl) ?_
            refine seqQ rfl rfl (yMove (v := .int _ _) rfl rfl) ?_
            refine seqQ rfl rfl (yIdxP1 rfl Try.underlying27 Try.sizeOf3 rfl rfl eq rfl hrl) ?_
            refine seqQ rfl rfl (yLoad rfl Try.underlying3 rfl rfl hq) ?_
            refine seqQ rfl rfl (yIdxP rfl Try.underlying35 Try.sizeOf72 rfl rfl epe rfl hil) ?_
            refine seqQ rfl rfl (yFieldAddr rfl Try.underlying72 rfl Try.sizeOf44 rfl rfl) ?_
            refine seqQ rfl rfl (yLoad rfl Try.underlying44 rfl rfl (show cellH _ _ = some (.slice x.CA x.clk.length x.cc) from hpe 5 _ rfl)) ?_
            refine seqQ rfl rfl (yLen rfl Try.underlying44 rfl) ?_
            refine seqQ rfl rfl (yMove (v := .int _ _) rfl rfl) ?_
            refine seqNil ?_
            refine hF29 _ _ ?_; clear hF29
            -- loop
            refine wpBlock ?_
            refine wpLoopS [11, 12, 57, 58, 59, 60, 61, 62, 63, 64, 65, 66, 67, 68, 69, 70, 71, 72, 73] (fun k : Nat => [(57, .int .i64 k)]) (fun k H' => k ≤ x.clk.length ∧ H' = Hn ∧ ∀ j, j < k → j ≠ r → x.clk.getD j 0 ≤ (t.getD j 0 : Nat)) (fun k => x.clk.length - k) 0 ⟨rfl, trivial⟩ ⟨Nat.zero_le _, rfl, fun j h => absurd h (by simp)⟩ ?_
            rintro k J4 Hk' ⟨hk, e, hle⟩
            obtain rfl := e.symm
            clear e
            refine wpSeq fun F30 hF30 => ?_
            refine wpRegion ?_
            refine seqQ rfl rfl (yLss rfl rfl rfl) ?_
            refine seqNil ?_
            refine hF30 _ _ ?_; clear hF30
            refine wpSeq fun F31 hF31 => ?_
            -- if t58
            refine wpIf rfl (fun hlk => ?_) (fun hlk => ?_)
            · skip
              have hkl : k < x.clk.length := by omega
              have hkt : k < (tI t).length := by rw [tI_len]; omega
              obtain ⟨pc, epc, hpc⟩ := hxr.at1 hkl
              obtain ⟨qk, eqk, hqk⟩ := rt.at1 hkt
              rw [tI_get] at hqk
              have hgk : x.clk.getD k 0 = x.clk[k] := by rw [List.getD_eq_getElem?_getD, List.getElem?_eq_getElem hkl]; rfl
              refine wpSkip ?_
              refine hF31 _ _ ?_; clear hF31
              refine wpSeq fun F32 hF32 => ?_
              refine wpBlock ?_
              refine wpSeq fun F33 hF33 => ?_
              refine wpRegion ?_
              refine seqQ rfl rfl (yMove (v := .int _ _) rfl rfl) ?_
              refine seqQ rfl rfl (yIdxP1 rfl Try.underlying44 Try.sizeOf3 rfl rfl epc rfl hkl) ?_
              refine seqQ rfl rfl (yLoad rfl Try.underlying3 rfl rfl hpc) ?_
              refine seqQ rfl rfl (yAssign (v := .int _ _) rfl rfl) ?_
              refine seqQ rfl rfl (yAssign (v := .int _ _) rfl rfl) ?_
              refine seqNil ?_
              refine hF33 _ _ ?_; clear hF33
              refine wpSeq fun F34 hF34 => ?_
              refine wpRegion ?_
              refine seqQ rfl rfl (yMove (v := .int _ _) rfl rfl) ?_
              refine seqQ rfl rfl (yMove (v := .int _ _) rfl rfl) ?_
              refine seqQ rfl rfl (yNeq rfl rfl rfl) ?_
              -- guard t65
              refine seqGB rfl rfl rfl rfl (fun hne => ?_) (fun hne => ?_)
              · skip
                have hne : k ≠ r := by simp at hne; omega
                refine seqQ rfl rfl (yMove (v := .int _ _) rfl rfl) ?_
                refine seqQ rfl rfl (yMove (v := .slice _ _ _) rfl rfl) ?_
                refine seqQ rfl rfl (yMove (v := .int _ _) rfl rfl) ?_
                refine seqQ rfl rfl (yIdxP1 rfl Try.underlying27 Try.sizeOf3 rfl rfl eqk rfl (show k < ls.length by omega)) ?_
                refine seqQ rfl rfl (yLoad rfl Try.underlying3 rfl rfl hqk) ?_
                refine seqQ rfl rfl (yGtr rfl rfl rfl) ?_
                refine seqQ rfl rfl (yPickT (v := .bool _) rfl rfl rfl) ?_
                refine seqNil ?_
                refine hF34 _ _ ?_; clear hF34
                -- if t72
                refine wpIf rfl (fun hgt => ?_) (fun hgt => ?_)
                · skip
                  refine wpExit ?_
                  refine hF24 _ _ ?_; clear hF24
                  refine wpRegion ?_
                  refine seqQ rfl rfl (yAdd rfl rfl rfl (by unfold In64; omega)) ?_
                  refine seqQ rfl rfl (yMove (v := .int _ _) rfl rfl) ?_
                  refine seqNil ?_
                  -- end loop
                  exact loopEnd (r + 1) (by repeat (first | (with_reducible exact Agree.refl _ _) | refine Agree.upd ?_ rfl | refine Agree.over ?_ rfl)) (by omega) ⟨rfl, rfl, trivial⟩ ⟨hrl, rfl, fun j hj => (by
                    by_cases e : j = r
                    · subst e; rw [hcb]; exact decide_eq_false fun h => by have := h.2 k hkl hne; omega
                    · exact hno j (by omega))⟩
                · skip
                  refine wpSkip ?_
                  refine hF32 _ _ ?_; clear hF32
                  refine wpRegion ?_
                  refine seqQ rfl rfl (yAdd rfl rfl rfl (by unfold In64; omega)) ?_
                  refine seqQ rfl rfl (yMove (v := .int _ _) rfl rfl) ?_
                  refine seqNil ?_
                  -- end loop
                  exact loopEnd (k + 1) (by repeat (first | (with_reducible exact Agree.refl _ _) | refine Agree.upd ?_ rfl | refine Agree.over ?_ rfl)) (by omega) ⟨rfl, trivial⟩ ⟨hkl, rfl, fun j hj hjr => (by
                    by_cases e : j = k
                    · subst e; rw [hgk]; omega
                    · exact hle j (by omega) hjr)⟩
              · skip
                have hne : k = r := by simp at hne; omega
                refine seqU rfl rfl ?_
                refine seqU rfl rfl ?_
                refine seqU rfl rfl ?_
                refine seqU rfl rfl ?_
                refine seqU rfl rfl ?_
                refine seqU rfl rfl ?_
                refine seqQ rfl rfl (yPickF (v := .bool _) rfl rfl rfl) ?_
                refine seqNil ?_
                refine hF34 _ _ ?_; clear hF34
                -- if t72
                refine wpF rfl ?_
                refine wpSkip ?_
                refine hF32 _ _ ?_; clear hF32
                refine wpRegion ?_
                refine seqQ rfl rfl (yAdd rfl rfl rfl (by unfold In64; omega)) ?_
                refine seqQ rfl rfl (yMove (v := .int _ _) rfl rfl) ?_
                refine seqNil ?_
                -- end loop
                exact loopEnd (k + 1) (by repeat (first | (with_reducible exact Agree.refl _ _) | refine Agree.upd ?_ rfl | refine Agree.over ?_ rfl)) (by omega) ⟨rfl, trivial⟩ ⟨hkl, rfl, fun j hj hjr => hle j (by omega) hjr⟩
            · skip
              obtain rfl : k = x.clk.length := by omega
              have hyes : canB (entsL ls) t r = true := by
                rw [hcb]
                exact decide_eq_true ⟨h47, fun k hk hkr => hle k hk hkr⟩
              have hnx := next_some (by omega) hyes hno
              have hstep : mergeGo (entsL ls) (n' + 1) t o = mergeGo (entsL ls) n' (t.set r (i + 1)) (o ++ [(r, i)]) := by
                simp only [mergeGo, hnx, ← hi]
              rw [hstep] at hgo
              refine wpExit ?_
              refine hF28 _ _ ?_; clear hF28
              refine wpSeq fun F35 hF35 => ?_
              refine wpRegion ?_
              refine seqQ rfl rfl (yMove (v := .slice _ _ _) rfl rfl) ?_
              refine seqQ rfl rfl (yMove (v := .int _ _) rfl rfl) ?_
              refine seqQ rfl rfl (yMove (v := .slice _ _ _) rfl rfl) ?_
              refine seqQ rfl rfl (yMove (v := .int _ _) rfl rfl) ?_
              refine seqQ rfl rfl (yIdxP1 rfl Try.underlying27 Try.sizeOf3 rfl rfl eq rfl hrl) ?_
              refine seqQ rfl rfl (yLoad rfl Try.underlying3 rfl rfl hq) ?_
              refine seqQ rfl rfl (yBuild (pl := [(0, 1), (1, 1)]) (vs := [(0, .int _ _), (1, .int _ _)]) rfl Try.underlying64 Try.zeroValue64 rfl (by unfold Places; kernel_rfl) rfl rfl) ?_
              refine seqN rfl rfl (nBuildSliceN (vs := [.agg _]) rfl Try.underlying55 Try.sizeOf64 Try.zeroValue64 rfl rfl rfl rfl rfl) (fun g81 H81 hx81 hB81 hg81 hl81 => ?_)
              -- e slot 82: builtin append t74 t81 : [55, 55]
              refine seqE rfl rfl (stepApp (c := ePl) (oo.ext hx81) rfl Try.underlying55 elem_pl rfl (by omega) rfl rfl rfl (Blk.rd (c := ePl) (l := [(r, i)]) hB81) (by simp only [List.length_singleton]; omega) (by have := hx81.size; omega) ?_)
              intro v' Hp op gp
              have hEp : Ext H Hp := (hEn.trans hx81).mine gp.1 (fun b hb => by rw [Option.mem_toList] at hb; have := (oo.lt b hb).1; omega)
              have aOT : Apart (.slice O o.length oc) (.slice (some ⟨g, 0, none⟩) ls.length ls.length) := fun b hb hb2 => by
                have hb3 : g = b := Option.some.inj hb2
                have := (oo.lt _ hb).1
                omega
              have otp := (ot.ext hx81).grew gp aOT
              obtain ⟨Op, cp, rfl, -⟩ := op.form
              have rtp := (Own.rd otp).2
              obtain ⟨q2, eq2, hq2⟩ := rtp.at1 hrt
              rw [tI_get, ← hi] at hq2
              obtain rfl := Option.some.inj (eq2.symm.trans eq)
              refine seqQ rfl rfl (yAssign (v := .slice _ _ _) rfl rfl) ?_
              refine seqNil ?_
              refine hF35 _ _ ?_; clear hF35
              refine wpSeq fun F36 hF36 => ?_
              refine wpRegion ?_
              refine seqQ rfl rfl (yMove (v := .slice _ _ _) rfl rfl) ?_
              refine seqQ rfl rfl (yMove (v := .int _ _) rfl rfl) ?_
              refine seqQ rfl rfl (yIdxP1 rfl Try.underlying27 Try.sizeOf3 rfl rfl eq rfl hrl) ?_
              refine seqQ rfl rfl (yLoad rfl Try.underlying3 rfl rfl hq2) ?_
              refine seqQ rfl rfl (yAdd rfl rfl rfl (by unfold In64; omega)) ?_
              refine seqQ rfl rfl (yIdx1 rfl Try.underlying27 Try.sizeOf3 rfl rfl rfl hrl) ?_
              -- e slot None: store T3 t88 t87
              refine seqE0 rfl rfl (stepStoreOwn (z := ((i : Int) + 1)) otp rfl Try.sizeOf3 rfl rfl rfl rfl hrt ?_)
              intro Hs ots hKs
              rw [show (tI t).set r ((i : Int) + 1) = tI (t.set r (i + 1)) from by rw [tI_set]; rfl] at ots
              have ops : Own ePl 64 Hs Hk.size (.slice Op (o ++ [(r, i)]).length cp) (o ++ [(r, i)]) := op.keep hKs (fun b hb => by have := (op.lt b hb).1; simp; omega)
              have hEs : Ext H Hs := hEp.mine hKs (by simp; omega)
              refine seqNil ?_
              refine hF36 _ _ ?_; clear hF36
              refine wpExit ?_
              refine hF18 _ _ ?_; clear hF18
              refine wpRegion ?_
              refine seqQ rfl rfl (yMove (v := .int _ _) rfl rfl) ?_
              refine seqQ rfl rfl (ySubE rfl rfl rfl (by unfold In64; omega) (show ((n' + 1 : Nat) : Int) - 1 = (n' : Int) by omega)) ?_
              refine seqQ rfl rfl (yAssign (v := .int _ _) rfl rfl) ?_
              refine seqNil ?_
              -- end loop
              exact loopEnd (n', t.set r (i + 1), o ++ [(r, i)], _) (by repeat (first | (with_reducible exact Agree.refl _ _) | refine Agree.upd ?_ rfl | refine Agree.over ?_ rfl)) (by dsimp only; omega) ⟨rfl, rfl, trivial⟩ ⟨by dsimp only; omega, hEs, by have := hx81.size; have := gp.1.size; have := hKs.size; omega, by dsimp only; rw [List.length_set]; exact htl, fun j => (by
                dsimp only
                by_cases e : r = j
                · subst e
                  rw [hg, List.length_map, List.getD_eq_getElem?_getD, List.getElem?_set_self (by omega)]
                  exact hil
                · rw [List.getD_eq_getElem?_getD, List.getElem?_set_ne e, ← List.getD_eq_getElem?_getD]
                  exact htb j), by dsimp only; rw [List.length_append, List.length_singleton]; omega, hgo, ots, ops⟩
        · skip
          have hr : r = ls.length := by omega
          have hnx := next_none (ls := entsL ls) (t := t) (fun j hj => hno j (by omega))
          have hstep : mergeGo (entsL ls) (n' + 1) t o = (false, o) := by simp only [mergeGo, hnx]
          rw [hstep] at hgo
          refine wpExit ?_
          refine hF20 _ _ ?_; clear hF20
          refine wpSeq fun F37 hF37 => ?_
          refine wpRegion ?_
          refine seqQ rfl rfl (yMove (v := .slice _ _ _) rfl rfl) ?_
          refine seqQ rfl rfl (yAssign (v := .slice _ _ _) rfl rfl) ?_
          refine seqQ rfl rfl (yAssign (v := .int _ _) rfl rfl) ?_
          refine seqNil ?_
          refine hF37 _ _ ?_; clear hF37
          -- ret
          refine wpRet (fin2 (v := .slice _ _ _) (v' := .int _ _) rfl rfl rfl ?_)
          rw [mergeL_gap hV hgo.symm]
          exact ⟨O, oc, rfl, oo.mono (by omega), hEn⟩
      · skip
        have hn0 : n = 0 := by dsimp only at hleft; omega
        subst hn0
        rw [mergeGo] at hgo
        refine wpExit ?_
        refine hF15 _ _ ?_; clear hF15
        refine wpSeq fun F38 hF38 => ?_
        refine wpRegion ?_
        refine seqQ rfl rfl (yMove (v := .slice _ _ _) rfl rfl) ?_
        refine seqQ rfl rfl (yAssign (v := .slice _ _ _) rfl rfl) ?_
        refine seqQ rfl rfl (yAssign (v := .int _ _) rfl rfl) ?_
        refine seqNil ?_
        refine hF38 _ _ ?_; clear hF38
        -- ret
        refine wpRet (fin2 (v := .slice _ _ _) (v' := .int _ _) rfl rfl rfl ?_)
        rw [mergeL_ok hV hgo.symm]
        exact ⟨O, oc, rfl, oo.mono (by omega), hEn⟩
end Go.Proofs.Ytbanngdijmglbaa
