/- The document's logs: Right. -/
import Derived.Test.YtbanngdijmglbaaM20
import Derived.Test.YtbanngdijmglbaaM17
namespace Go.Proofs.Ytbanngdijmglbaa
open Go.RowKit

set_option maxRecDepth 100000 in
theorem rright_c (ls : List LH) (B : Option Addr) (cb : Nat) (H : Heap) (h : LogsRd H B ls) (hs : LogsSm ls) (hcap : ∀ L ∈ ls, L.l.length ≤ L.c) :
    CallsH Try.prog 27 [.slice B ls.length cb] H fun v H' => v = .bool (decide (rightL (entsL ls))) ∧ Ext H H' := by
  have s1 := hs.1
  have he := entsL_len ls
  refine callsH_of Try.func27 rfl Try.ntmps27 (Nat.le_of_ble_eq_true rfl) ?_
  refine wpSeq fun F1 hF1 => ?_
  refine wpRegion ?_
  refine seqQ rfl rfl (yAssign (v := .bool _) rfl rfl) ?_
  refine seqNil ?_
  refine hF1 _ _ ?_; clear hF1
  refine wpSeq fun F2 hF2 => ?_
  refine wpSeq fun F3 hF3 => ?_
  refine wpRegion ?_
  refine seqQ rfl rfl (yMove (v := .slice _ _ _) rfl rfl) ?_
  -- e slot 15: call F25<farandole/farandoleref57.Merge> t14
  refine seqE rfl rfl (stepCall rfl Try.call25 rfl ?_)
  refine (rmerge_c ls B cb H h hs).mono ?_
  rintro v H1 ⟨O, oc, rfl, -, hE⟩
  have z1 := hE.size
  refine seqQ rfl rfl (yMove (v := .tuple _) rfl rfl) ?_
  refine seqQ rfl rfl (yExtract (v := .slice _ _ _) rfl rfl rfl) ?_
  refine seqQ rfl rfl (yExtract (v := .int _ _) rfl rfl rfl) ?_
  refine seqQ rfl rfl (yAssign (v := .slice _ _ _) rfl rfl) ?_
  refine seqQ rfl rfl (yAssign (v := .int _ _) rfl rfl) ?_
  refine seqNil ?_
  refine hF3 _ _ ?_; clear hF3
  refine wpSeq fun F4 hF4 => ?_
  refine wpRegion ?_
  refine seqQ rfl rfl (yMove (v := .int _ _) rfl rfl) ?_
  refine seqQ rfl rfl (yNeq rfl rfl rfl) ?_
  refine seqNil ?_
  refine hF4 _ _ ?_; clear hF4
  -- if t19
  refine wpCond rfl (fun hM => ?_) (fun hM => ?_)
  · skip
    have hM : ¬ (mergeL (entsL ls)).1 = 0 := by simpa using hM
    refine wpSeq fun F5 hF5 => ?_
    refine wpRegion ?_
    refine seqQ rfl rfl (yAssign (v := .bool _) rfl rfl) ?_
    refine seqNil ?_
    refine hF5 _ _ ?_; clear hF5
    -- ret
    refine wpRet (fin1 (v := .bool _) rfl rfl ?_)
    exact ⟨by rw [decide_eq_false (fun h : rightL _ => hM h.1)], hE⟩
  · skip
    have hM : (mergeL (entsL ls)).1 = 0 := by simpa using hM
    have hV := mergeL_valid hM
    have hn6 : 1 ≤ ls.length ∧ ls.length ≤ 6 := by have := hV.1; omega
    have hlen : ∀ L ∈ ls, L.l.length ≤ 1000 := fun L hL => by
      obtain ⟨r, hr, rfl⟩ := List.getElem_of_mem hL
      have := (hV.2 r (by omega)).2.2.1
      rw [entsL_get hr, List.length_map] at this
      exact this
    refine wpSkip ?_
    refine hF2 _ _ ?_; clear hF2
    refine wpSeq fun F6 hF6 => ?_
    refine wpRegion ?_
    refine seqQ rfl rfl (yAssign (v := .slice _ _ _) rfl rfl) ?_
    refine seqNil ?_
    refine hF6 _ _ ?_; clear hF6
    refine wpSeq fun F7 hF7 => ?_
    refine wpSeq fun F8 hF8 => ?_
    refine wpRegion ?_
    refine seqQ rfl rfl (yAssign (v := .int _ _) rfl rfl) ?_
    refine seqNil ?_
    refine hF8 _ _ ?_; clear hF8
    -- loop
    refine wpBlock ?_
    refine wpLoopS [5, 6, 20, 21, 22, 23, 24, 25, 26, 27, 28, 29, 30, 31, 32, 33] (fun x : Nat × Value × List HH => [(6, .int .i64 x.1), (5, x.2.1)]) (fun x H' => x.1 ≤ ls.length ∧ Ext H H' ∧ HsOwn H.size H' x.2.1 x.2.2 ∧ evsL x.2.2 = (ls.take x.1).map (fun L => L.l.map EH.ev)) (fun x => ls.length - x.1) (0, .slice none 0 0, []) ⟨rfl, rfl, trivial⟩ ⟨Nat.zero_le _, hE, ⟨Own.nil _ _, (fun x h => by cases h)⟩, rfl⟩ ?_
    rintro ⟨k, out, hsl⟩ J Hk ⟨hk, hEk, ho, hmap⟩
    dsimp only at hk ho hmap
    have hll : hsl.length = k := by have := congrArg List.length hmap; rw [evsL_len, List.length_map, List.length_take] at this; omega
    obtain ⟨A1, c1, rfl, -⟩ := ho.own.form
    have zk := hEk.size
    refine wpSeq fun F9 hF9 => ?_
    refine wpSeq fun F10 hF10 => ?_
    refine wpRegion ?_
    refine seqQ rfl rfl (yMove (v := .int _ _) rfl rfl) ?_
    refine seqQ rfl rfl (yMove (v := .slice _ _ _) rfl rfl) ?_
    refine seqQ rfl rfl (yLen rfl Try.underlying33 rfl) ?_
    refine seqQ rfl rfl (yLss rfl rfl rfl) ?_
    refine seqNil ?_
    refine hF10 _ _ ?_; clear hF10
    -- if t23
    refine wpIf rfl (fun hlt => ?_) (fun hlt => ?_)
    · skip
      have hkl : k < ls.length := by dsimp only at hlt; omega
      obtain ⟨p, ep, hp⟩ := (h.1.ext hEk).at1 hkl
      have hL := (h.2 _ (List.getElem_mem hkl)).ext hEk
      have hsL := hs.2 _ (List.getElem_mem hkl)
      have ht1 : (ls.take (k + 1)).map (fun L => L.l.map EH.ev) = (ls.take k).map (fun L => L.l.map EH.ev) ++ [ls[k].l.map EH.ev] := by rw [List.take_succ_eq_append_getElem hkl, List.map_append]; rfl
      generalize ls[k] = L at *
      refine wpSkip ?_
      refine hF9 _ _ ?_; clear hF9
      refine wpSeq fun F11 hF11 => ?_
      refine wpBlock ?_
      refine wpRegion ?_
      refine seqQ rfl rfl (yMove (v := .slice _ _ _) rfl rfl) ?_
      refine seqQ rfl rfl (yMove (v := .slice _ _ _) rfl rfl) ?_
      refine seqQ rfl rfl (yMove (v := .int _ _) rfl rfl) ?_
      refine seqQ rfl rfl (yIdxP1 rfl Try.underlying33 Try.sizeOf23 rfl rfl ep rfl hkl) ?_
      refine seqQ rfl rfl (yLoad rfl Try.underlying23 rfl rfl (show cellH Hk _ = some (.slice L.A L.l.length L.c) from hp)) ?_
      -- e slot 31: call F23<farandole/farandoleref57.Events> t30
      refine seqE rfl rfl (stepCall rfl Try.call23 rfl ?_)
      refine (revents_c L.l L.A L.c Hk hL hsL).mono ?_
      rintro v H2 ⟨evs, oe, hme, -, x2⟩
      obtain ⟨A2, c2, rfl, -⟩ := oe.form
      have aE : Apart (.slice A1 hsl.length c1) (.slice A2 evs.length c2) := apart_lt oe (fun g hg => .inr (by have := (ho.own.lt g hg).2; omega))
      have z2 := x2.size
      refine seqN rfl rfl (nBuildSlice (vs := [.slice _ _ _]) rfl Try.underlying106 Try.sizeOf51 Try.zeroValue51 rfl rfl rfl rfl) (fun g32 H32 hx32 hB32 hg32 hl32 => ?_)
      -- e slot 33: builtin append t26 t32 : [106, 106]
      refine seqE rfl rfl (stepApp (c := eHH) ((ho.own.ext x2).ext hx32) rfl Try.underlying106 elem_evs rfl (by omega) rfl rfl rfl (Blk.rd (c := eHH) (l := [⟨A2, c2, evs⟩]) hB32) (by simp only [List.length_singleton]; omega) (by have := hx32.size; omega) ?_)
      intro v' H4 o4 g4
      have hE4 : Ext H H4 := g4.ext ((hEk.trans x2).trans hx32) (fun g hg => by have := (ho.own.lt g hg).1; omega)
      have ho4 : HsOwn H.size H4 v' (hsl ++ [⟨A2, c2, evs⟩]) := ⟨o4, fun y hy => by
        rcases List.mem_append.1 hy with hy | hy
        · obtain ⟨o, a⟩ := ho.evs y hy
          exact ⟨((o.ext x2).ext hx32).grew g4 a, a.grew ((o.ext x2).ext hx32) g4⟩
        · simp only [List.mem_singleton] at hy
          subst hy
          exact ⟨((oe.mono (by omega)).ext hx32).grew g4 aE, aE.grew (oe.ext hx32) g4⟩⟩
      obtain ⟨A4, c4, rfl, -⟩ := o4.form
      refine seqQ rfl rfl (yAssign (v := .slice _ _ _) rfl rfl) ?_
      refine seqNil ?_
      refine hF11 _ _ ?_; clear hF11
      refine wpRegion ?_
      refine seqQ rfl rfl (yMove (v := .int _ _) rfl rfl) ?_
      refine seqQ rfl rfl (yAdd rfl rfl rfl (by unfold In64; omega)) ?_
      refine seqQ rfl rfl (yAssign (v := .int _ _) rfl rfl) ?_
      refine seqNil ?_
      -- end loop
      exact loopEnd (k + 1, _, hsl ++ [⟨A2, c2, evs⟩]) (by repeat (first | (with_reducible exact Agree.refl _ _) | refine Agree.upd ?_ rfl | refine Agree.over ?_ rfl)) (by dsimp only; omega) ⟨rfl, rfl, trivial⟩ ⟨hkl, hE4, ho4, by dsimp only; unfold evsL at hmap ⊢; rw [List.map_append, hmap, ht1]; congr 1; simp only [List.map_cons, List.map_nil, HH.evs, hme]⟩
    · skip
      obtain rfl : k = ls.length := by dsimp only at hlt; omega
      rw [List.take_length, ← entsL_evs] at hmap
      have hlh : ∀ x ∈ hsl, x.l.length ≤ 100000 := fun x hx => by
        obtain ⟨r, hr, rfl⟩ := List.getElem_of_mem hx
        have h1 := evsL_get hr
        rw [hmap] at h1
        have h2 := congrArg List.length h1
        rw [List.length_map] at h2
        have hrl : r < ls.length := by omega
        have h3 := hlen _ (List.getElem_mem hrl)
        have h4 : ((entsL ls).map (fun l => l.map Ent.ev)).getD r [] = (ls[r].l.map EH.ent).map Ent.ev := by
          rw [List.getD_eq_getElem?_getD, List.getElem?_map]
          have := entsL_get hrl
          rw [List.getD_eq_getElem?_getD, List.getElem?_eq_getElem (by rw [he]; exact hrl)] at this
          rw [List.getElem?_eq_getElem (by rw [he]; exact hrl)]
          simp only [Option.map_some, Option.getD_some] at this ⊢
          rw [this]
        rw [h4, List.length_map, List.length_map] at h2
        omega
      refine wpExit ?_
      refine hF7 _ _ ?_; clear hF7
      refine wpSeq fun F12 hF12 => ?_
      refine wpSeq fun F13 hF13 => ?_
      refine wpRegion ?_
      refine seqQ rfl rfl (yMove (v := .slice _ _ _) rfl rfl) ?_
      -- e slot 36: call F56<farandole/farandoleref19.Matched> t35
      refine seqE rfl rfl (stepCall rfl Try.call56 rfl ?_)
      refine (rmatched_c hsl A1 c1 Hk ⟨(Own.rd ho.own).2, fun x hx => (Own.rd (ho.evs x hx).1).2⟩ (by omega) hlh).mono ?_
      rintro v Hm ⟨n, rfl, xm⟩
      rw [hmap]
      have hEm := hEk.trans xm
      refine seqQ rfl rfl (yMove (v := .tuple _) rfl rfl) ?_
      refine seqQ rfl rfl (yExtract (v := .int _ _) rfl rfl rfl) ?_
      refine seqQ rfl rfl (yExtract (v := .bool _) rfl rfl rfl) ?_
      refine seqQ rfl rfl (yAssign (v := .int _ _) rfl rfl) ?_
      refine seqQ rfl rfl (yAssign (v := .bool _) rfl rfl) ?_
      refine seqNil ?_
      refine hF13 _ _ ?_; clear hF13
      refine wpSeq fun F14 hF14 => ?_
      refine wpRegion ?_
      refine seqQ rfl rfl (yMove (v := .bool _) rfl rfl) ?_
      refine seqQ rfl rfl (yNot rfl rfl) ?_
      refine seqNil ?_
      refine hF14 _ _ ?_; clear hF14
      -- if t40
      refine wpCond rfl (fun hMt => ?_) (fun hMt => ?_)
      · skip
        have hMt : ¬ MatchP ((entsL ls).map fun l => l.map Ent.ev) := by simpa using hMt
        refine wpSeq fun F15 hF15 => ?_
        refine wpRegion ?_
        refine seqQ rfl rfl (yAssign (v := .bool _) rfl rfl) ?_
        refine seqNil ?_
        refine hF15 _ _ ?_; clear hF15
        -- ret
        refine wpRet (fin1 (v := .bool _) rfl rfl ?_)
        exact ⟨by rw [decide_eq_false (fun h : rightL _ => hMt h.2.1)], hEm⟩
      · skip
        have hMt : MatchP ((entsL ls).map fun l => l.map Ent.ev) := by simpa using hMt
        clear ho hmap hlh xm hEk
        refine wpSkip ?_
        refine hF12 _ _ ?_; clear hF12
        refine wpSeq fun F16 hF16 => ?_
        refine wpSeq fun F17 hF17 => ?_
        refine wpRegion ?_
        refine seqQ rfl rfl (yAssign (v := .int _ _) rfl rfl) ?_
        refine seqNil ?_
        refine hF17 _ _ ?_; clear hF17
        -- loop
        refine wpBlock ?_
        refine wpLoopS [2, 9, 10, 11, 12, 41, 42, 43, 44, 45, 46, 47, 48, 49, 50, 51, 52, 53, 54, 55, 56, 57, 58, 59, 60, 61, 62, 63, 64, 65, 66, 67, 68, 69, 70, 71, 72, 73, 74, 75, 76, 77, 78] (fun r : Nat => [(9, .int .i64 r)]) (fun r H' => r ≤ ls.length ∧ Ext H H' ∧ ∀ a, a < r → ∀ i, i < ((entsL ls).getD a []).length → rightE (entsL ls) a i) (fun r => ls.length - r) 0 ⟨rfl, trivial⟩ ⟨Nat.zero_le _, hEm, fun a h => absurd h (by simp)⟩ ?_
        rintro r J2 Hr ⟨hr, hEr, hok⟩
        refine wpSeq fun F18 hF18 => ?_
        refine wpSeq fun F19 hF19 => ?_
        refine wpRegion ?_
        refine seqQ rfl rfl (yMove (v := .int _ _) rfl rfl) ?_
        refine seqQ rfl rfl (yMove (v := .slice _ _ _) rfl rfl) ?_
        refine seqQ rfl rfl (yLen rfl Try.underlying33 rfl) ?_
        refine seqQ rfl rfl (yLss rfl rfl rfl) ?_
        refine seqNil ?_
        refine hF19 _ _ ?_; clear hF19
        -- if t44
        refine wpIf rfl (fun hlr => ?_) (fun hlr => ?_)
        · skip
          have hrl : r < ls.length := by omega
          have hrc := fun i H' (hx : Ext H H') hi => rclock_c ls B cb r i H' (h.ext hx) hs hV hcap hrl hi
          obtain ⟨p, ep, hp⟩ := h.1.at1 hrl
          have hL := h.2 _ (List.getElem_mem hrl)
          have hg := entsL_get hrl
          have hls := hlen _ (List.getElem_mem hrl)
          have hsL := hs.2 _ (List.getElem_mem hrl)
          have hca := fun i hi => clk_at (i := i) hrl hi
          generalize ls[r] = L at *
          refine wpSkip ?_
          refine hF18 _ _ ?_; clear hF18
          refine wpSeq fun F20 hF20 => ?_
          refine wpBlock ?_
          refine wpSeq fun F21 hF21 => ?_
          refine wpRegion ?_
          refine seqQ rfl rfl (yAssign (v := .int _ _) rfl rfl) ?_
          refine seqNil ?_
          refine hF21 _ _ ?_; clear hF21
          -- loop
          refine wpBlock ?_
          refine wpLoopS [2, 10, 11, 12, 47, 48, 49, 50, 51, 52, 53, 54, 55, 56, 57, 58, 59, 60, 61, 62, 63, 64, 65, 66, 67, 68, 69, 70, 71, 72, 73, 74, 75, 76, 77, 78] (fun i : Nat => [(10, .int .i64 i)]) (fun i H' => i ≤ L.l.length ∧ Ext H H' ∧ ∀ j, j < i → rightE (entsL ls) r j) (fun i => L.l.length - i) 0 ⟨rfl, trivial⟩ ⟨Nat.zero_le _, hEr, fun j h => absurd h (by simp)⟩ ?_
          rintro i J3 Hi ⟨hi, hEi, hoi⟩
          refine wpSeq fun F22 hF22 => ?_
          refine wpSeq fun F23 hF23 => ?_
          refine wpRegion ?_
          refine seqQ rfl rfl (yMove (v := .int _ _) rfl rfl) ?_
          refine seqQ rfl rfl (yMove (v := .slice _ _ _) rfl rfl) ?_
          refine seqQ rfl rfl (yMove (v := .int _ _) rfl rfl) ?_
          refine seqQ rfl rfl (yIdxP1 rfl Try.underlying33 Try.sizeOf23 rfl rfl ep rfl hrl) ?_
          refine seqQ rfl rfl (yLoad rfl Try.underlying23 rfl rfl (show cellH Hi _ = some (.slice L.A L.l.length L.c) from hEi.cell hp)) ?_
          refine seqQ rfl rfl (yLen rfl Try.underlying23 rfl) ?_
          refine seqQ rfl rfl (yLss rfl rfl rfl) ?_
          refine seqNil ?_
          refine hF23 _ _ ?_; clear hF23
          -- if t53
          refine wpIf rfl (fun hli => ?_) (fun hli => ?_)
          · skip
            have hil : i < L.l.length := by omega
            obtain ⟨q, eq, hq⟩ := hL.1.at hil
            have hxr := (hL.2 _ (List.getElem_mem hil)).2
            have hxs := hsL.2 _ (List.getElem_mem hil)
            have hxa := hca i hil
            have hbad : ¬ rightE (entsL ls) r i → ¬ rightL (entsL ls) := fun hb hv => hb (hv.2.2 r (by omega) i (by rw [hg, List.length_map]; exact hil))
            have hrci := hrc i Hi hEi hil
            generalize L.l[i] = x at *
            refine wpSkip ?_
            refine hF22 _ _ ?_; clear hF22
            refine wpSeq fun F24 hF24 => ?_
            refine wpBlock ?_
            refine wpSeq fun F25 hF25 => ?_
            refine wpRegion ?_
            refine seqQ rfl rfl (yMove (v := .slice _ _ _) rfl rfl) ?_
            refine seqQ rfl rfl (yMove (v := .int _ _) rfl rfl) ?_
            refine seqQ rfl rfl (yMove (v := .int _ _) rfl rfl) ?_
            refine seqQ rfl rfl (yBuild (pl := [(0, 1), (1, 1)]) (vs := [(0, .int _ _), (1, .int _ _)]) rfl Try.underlying63 Try.zeroValue63 rfl (by unfold Places; kernel_rfl) rfl rfl) ?_
            -- e slot 61: call F57<farandole/farandoleref57.Clock> t57 t60
            refine seqE rfl rfl (stepCall rfl Try.call57 rfl ?_)
            refine hrci.mono ?_
            rintro v H2 ⟨⟨C, cc, rfl, rC⟩, x2⟩
            have hE2 := hEi.trans x2
            have wl : (needC (entsL ls) r i).2.length ≤ 1000000000 := by
              unfold needC
              split
              · have := tickF_len (beforeC (entsL ls) r i) r
                have := before_len hV (r := r) (i := i) (by omega) (by rw [hg, List.length_map]; exact hil)
                omega
              · have := recvF_len (beforeC (entsL ls) r i) (sentC ((entsL ls).getD (evAt (entsL ls) r i).peer.toNat []) r (gotN ((entsL ls).getD r []) i (evAt (entsL ls) r i).peer)) r
                omega
            refine seqQ rfl rfl (yMove (v := .tuple _) rfl rfl) ?_
            refine seqQ rfl rfl (yExtract (v := .slice _ _ _) rfl rfl rfl) ?_
            refine seqQ rfl rfl (yExtract (v := .bool _) rfl rfl rfl) ?_
            refine seqQ rfl rfl (yAssign (v := .slice _ _ _) rfl rfl) ?_
            refine seqQ rfl rfl (yAssign (v := .bool _) rfl rfl) ?_
            refine seqNil ?_
            refine hF25 _ _ ?_; clear hF25
            refine wpSeq fun F26 hF26 => ?_
            refine wpRegion ?_
            refine seqQ rfl rfl (yMove (v := .bool _) rfl rfl) ?_
            refine seqQ rfl rfl (yNot rfl rfl) ?_
            -- guard t66
            refine seqGB rfl rfl rfl rfl (fun h0 => ?_) (fun h0 => ?_)
            · skip
              have h0 : ¬ (needC (entsL ls) r i).1 = 0 := by simpa using h0
              refine seqU rfl rfl ?_
              refine seqU rfl rfl ?_
              refine seqU rfl rfl ?_
              refine seqU rfl rfl ?_
              refine seqU rfl rfl ?_
              refine seqU rfl rfl ?_
              refine seqU rfl rfl ?_
              refine seqU rfl rfl ?_
              refine seqU rfl rfl ?_
              refine seqU rfl rfl ?_
              refine seqU rfl rfl ?_
              refine seqQ rfl rfl (yPickT (v := .bool _) rfl rfl rfl) ?_
              refine seqNil ?_
              refine hF26 _ _ ?_; clear hF26
              -- if t78
              refine wpT rfl ?_
              refine wpSeq fun F27 hF27 => ?_
              refine wpRegion ?_
              refine seqQ rfl rfl (yAssign (v := .bool _) rfl rfl) ?_
              refine seqNil ?_
              refine hF27 _ _ ?_; clear hF27
              -- ret
              refine wpRet (fin1 (v := .bool _) rfl rfl ?_)
              exact ⟨by rw [decide_eq_false (hbad fun h => h0 (by unfold rightE at h; rw [h]))], hE2⟩
            · skip
              have h0 : (needC (entsL ls) r i).1 = 0 := by simpa using h0
              refine seqQ rfl rfl (yMove (v := .slice _ _ _) rfl rfl) ?_
              refine seqQ rfl rfl (yMove (v := .slice _ _ _) rfl rfl) ?_
              refine seqQ rfl rfl (yMove (v := .int _ _) rfl rfl) ?_
              refine seqQ rfl rfl (yIdxP1 rfl Try.underlying33 Try.sizeOf23 rfl rfl ep rfl hrl) ?_
              refine seqQ rfl rfl (yLoad rfl Try.underlying23 rfl rfl (show cellH H2 _ = some (.slice L.A L.l.length L.c) from hE2.cell hp)) ?_
              refine seqQ rfl rfl (yMove (v := .int _ _) rfl rfl) ?_
              refine seqQ rfl rfl (yIdxP rfl Try.underlying23 Try.sizeOf86 rfl rfl eq rfl hil) ?_
              refine seqQ rfl rfl (yFieldAddr rfl Try.underlying86 rfl Try.sizeOf28 rfl rfl) ?_
              refine seqQ rfl rfl (yLoad rfl Try.underlying28 rfl rfl (show cellH H2 _ = some (.slice x.CA x.clk.length x.cc) from hE2.cell (hq 5 _ rfl))) ?_
              -- e slot 76: call F49<farandole/farandoleref07.Equal> t67 t75
              refine seqE rfl rfl (stepCall rfl Try.call49 rfl ?_)
              refine (r7Equal_c C x.CA cc x.cc _ x.clk H2 rC (hxr.ext hE2) wl (by omega)).mono ?_
              rintro v Hz ⟨rfl, e⟩
              obtain rfl := e.symm
              clear e
              refine seqQ rfl rfl (yNot rfl rfl) ?_
              refine seqQ rfl rfl (yPickF (v := .bool _) rfl rfl rfl) ?_
              refine seqNil ?_
              refine hF26 _ _ ?_; clear hF26
              -- if t78
              refine wpCond rfl (fun hq2 => ?_) (fun hq2 => ?_)
              · skip
                have hq2 : ¬ (needC (entsL ls) r i).2 = x.clk := by simpa using hq2
                refine wpSeq fun F28 hF28 => ?_
                refine wpRegion ?_
                refine seqQ rfl rfl (yAssign (v := .bool _) rfl rfl) ?_
                refine seqNil ?_
                refine hF28 _ _ ?_; clear hF28
                -- ret
                refine wpRet (fin1 (v := .bool _) rfl rfl ?_)
                exact ⟨by rw [decide_eq_false (hbad fun h => hq2 (by unfold rightE at h; rw [h, hxa]))], hE2⟩
              · skip
                have hq2 : (needC (entsL ls) r i).2 = x.clk := by simpa using hq2
                refine wpSkip ?_
                refine hF24 _ _ ?_; clear hF24
                refine wpRegion ?_
                refine seqQ rfl rfl (yMove (v := .int _ _) rfl rfl) ?_
                refine seqQ rfl rfl (yAdd rfl rfl rfl (by unfold In64; omega)) ?_
                refine seqQ rfl rfl (yAssign (v := .int _ _) rfl rfl) ?_
                refine seqNil ?_
                -- end loop
                exact loopEnd (i + 1) (by repeat (first | (with_reducible exact Agree.refl _ _) | refine Agree.upd ?_ rfl | refine Agree.over ?_ rfl)) (by omega) ⟨rfl, trivial⟩ ⟨hil, hE2, fun j hj => (by
                  by_cases e : j = i
                  · subst e
                    unfold rightE
                    rw [hxa, ← h0, ← hq2]
                  · exact hoi j (by omega))⟩
          · skip
            have hiL : i = L.l.length := by omega
            refine wpExit ?_
            refine hF20 _ _ ?_; clear hF20
            refine wpRegion ?_
            refine seqQ rfl rfl (yMove (v := .int _ _) rfl rfl) ?_
            refine seqQ rfl rfl (yAdd rfl rfl rfl (by unfold In64; omega)) ?_
            refine seqQ rfl rfl (yAssign (v := .int _ _) rfl rfl) ?_
            refine seqNil ?_
            -- end loop
            exact loopEnd (r + 1) (by repeat (first | (with_reducible exact Agree.refl _ _) | refine Agree.upd ?_ rfl | refine Agree.over ?_ rfl)) (by omega) ⟨rfl, trivial⟩ ⟨hrl, hEi, fun a ha j hj => (by
              by_cases e : a = r
              · subst e; exact hoi j (by rw [hg, List.length_map] at hj; omega)
              · exact hok a (by omega) j hj)⟩
        · skip
          obtain rfl : r = ls.length := by omega
          refine wpExit ?_
          refine hF16 _ _ ?_; clear hF16
          refine wpSeq fun F29 hF29 => ?_
          refine wpRegion ?_
          refine seqQ rfl rfl (yAssign (v := .bool _) rfl rfl) ?_
          refine seqNil ?_
          refine hF29 _ _ ?_; clear hF29
          -- ret
          refine wpRet (fin1 (v := .bool _) rfl rfl ?_)
          exact ⟨by rw [decide_eq_true (show rightL (entsL ls) from ⟨hM, hMt, fun a ha => hok a (by omega)⟩)], hEr⟩
end Go.Proofs.Ytbanngdijmglbaa
