/- Package word: matched histories. Package log: the clock of a message. -/
import Derived.Test.YtbanngdijmglbaaM13
namespace Go.Proofs.Ytbanngdijmglbaa
open Go.RowKit

def MatchP (hs : List (List Evt)) : Prop := PropH hs ∧ ∀ p, p < hs.length → ∀ q, q < hs.length → labelsOf (hs.getD q []) false p <+: labelsOf (hs.getD p []) true q
instance (hs : List (List Evt)) : Decidable (MatchP hs) := by unfold MatchP; infer_instance
set_option maxRecDepth 100000 in
theorem cmp_pos (a b : Nat) : decide ((if (a : Int) < b then (-1 : Int) else if (b : Int) < a then 1 else 0) > 0) = decide (b < a) := by
  rw [decide_eq_decide]
  by_cases h1 : (a : Int) < b
  · rw [if_pos h1]; omega
  · rw [if_neg h1]
    by_cases h2 : (b : Int) < a
    · rw [if_pos h2]; omega
    · rw [if_neg h2]; omega
set_option maxRecDepth 100000 in
set_option maxRecDepth 100000 in
theorem wmatched_c (hs : List HH) (B : Option Addr) (cb : Nat) (H : Heap) (h : HsRd H B hs) (hl : hs.length ≤ 100000) (hl2 : ∀ x ∈ hs, x.l.length ≤ 100000) :
    CallsH Try.prog 54 [.slice B hs.length cb] H fun v H' => ∃ n : Int, v = .tuple #[.int .i64 n, .bool (decide (MatchP (evsL hs)))] ∧ Ext H H' := by
  have he := evsL_len hs
  refine callsH_of Try.func54 rfl Try.ntmps54 (Nat.le_of_ble_eq_true rfl) ?_
  refine wpSeq fun F1 hF1 => ?_
  refine wpRegion ?_
  refine seqQ rfl rfl (yAssign (v := .int _ _) rfl rfl) ?_
  refine seqQ rfl rfl (yAssign (v := .bool _) rfl rfl) ?_
  refine seqNil ?_
  refine hF1 _ _ ?_; clear hF1
  refine wpSeq fun F2 hF2 => ?_
  refine wpSeq fun F3 hF3 => ?_
  refine wpRegion ?_
  refine seqQ rfl rfl (yMove (v := .slice _ _ _) rfl rfl) ?_
  -- e slot 12: call F77<farandole/word.proper> t11
  refine seqE rfl rfl (stepCall rfl Try.call77 rfl ?_)
  refine (wproper_c hs B cb H h hl hl2).mono ?_
  rintro v H1 ⟨rfl, hE⟩
  refine seqQ rfl rfl (yNot rfl rfl) ?_
  refine seqNil ?_
  refine hF3 _ _ ?_; clear hF3
  -- if t13
  refine wpCond rfl (fun hP => ?_) (fun hP => ?_)
  · skip
    have hP : ¬ PropH (evsL hs) := by simpa using hP
    refine wpSeq fun F4 hF4 => ?_
    refine wpRegion ?_
    refine seqQ rfl rfl (yAssign (v := .int _ _) rfl rfl) ?_
    refine seqQ rfl rfl (yAssign (v := .bool _) rfl rfl) ?_
    refine seqNil ?_
    refine hF4 _ _ ?_; clear hF4
    -- ret
    refine wpRet (fin2 (v := .int _ _) (v' := .bool _) rfl rfl rfl ?_)
    exact ⟨0, by rw [decide_eq_false (fun h : MatchP _ => hP h.1)], hE⟩
  · skip
    have hP : PropH (evsL hs) := by simpa using hP
    have hn6 : hs.length ≤ 6 := by have := hP.1; omega
    refine wpSkip ?_
    refine hF2 _ _ ?_; clear hF2
    refine wpSeq fun F5 hF5 => ?_
    refine wpRegion ?_
    refine seqQ rfl rfl (yAssign (v := .int _ _) rfl rfl) ?_
    refine seqNil ?_
    refine hF5 _ _ ?_; clear hF5
    refine wpSeq fun F6 hF6 => ?_
    refine wpSeq fun F7 hF7 => ?_
    refine wpRegion ?_
    refine seqQ rfl rfl (yMove (v := .slice _ _ _) rfl rfl) ?_
    refine seqQ rfl rfl (yLen rfl Try.underlying106 rfl) ?_
    refine seqQ rfl rfl (yMove (v := .int _ _) rfl rfl) ?_
    refine seqNil ?_
    refine hF7 _ _ ?_; clear hF7
    -- loop
    refine wpBlock ?_
    refine wpLoopS [2, 3, 4, 5, 6, 7, 8, 9, 10, 16, 17, 18, 19, 20, 21, 22, 23, 24, 25, 26, 27, 28, 29, 30, 31, 32, 33, 34, 35, 36, 37, 38, 39, 40, 41, 42, 43, 44, 45, 46, 47, 48, 49, 50, 51, 52, 53, 54] (fun x : Nat × Nat => [(16, .int .i64 x.1), (4, .int .i64 x.2)]) (fun x H' => x.1 ≤ hs.length ∧ x.2 ≤ x.1 * 600000 ∧ Ext H H' ∧ ∀ p, p < x.1 → ∀ q, q < hs.length → labelsOf ((evsL hs).getD q []) false p <+: labelsOf ((evsL hs).getD p []) true q) (fun x => hs.length - x.1) (0, 0) ⟨rfl, rfl, trivial⟩ ⟨Nat.zero_le _, Nat.zero_le _, hE, fun p h => absurd h (by simp)⟩ ?_
    rintro ⟨p, n⟩ J Hp ⟨hp, hn, hEp, hok⟩
    dsimp only at hp hn hok
    refine wpSeq fun F8 hF8 => ?_
    refine wpRegion ?_
    refine seqQ rfl rfl (yLss rfl rfl rfl) ?_
    refine seqNil ?_
    refine hF8 _ _ ?_; clear hF8
    refine wpSeq fun F9 hF9 => ?_
    -- if t17
    refine wpIf rfl (fun hlt => ?_) (fun hlt => ?_)
    · skip
      have hpl : p < hs.length := by dsimp only at hlt; omega
      obtain ⟨ap, ep, hap⟩ := (h.1.ext hEp).at1 hpl
      have hLp := h.2 _ (List.getElem_mem hpl)
      have hsp := hl2 _ (List.getElem_mem hpl)
      have hgp := evsL_get hpl
      generalize hs[p] = P at *
      refine wpSkip ?_
      refine hF9 _ _ ?_; clear hF9
      refine wpSeq fun F10 hF10 => ?_
      refine wpBlock ?_
      refine wpSeq fun F11 hF11 => ?_
      refine wpRegion ?_
      refine seqQ rfl rfl (yMove (v := .int _ _) rfl rfl) ?_
      refine seqQ rfl rfl (yIdxP1 rfl Try.underlying106 Try.sizeOf51 rfl rfl ep rfl hpl) ?_
      refine seqQ rfl rfl (yLoad rfl Try.underlying51 rfl rfl (show cellH Hp _ = some (.slice P.A P.l.length P.c) from hap)) ?_
      refine seqQ rfl rfl (yAssign (v := .int _ _) rfl rfl) ?_
      refine seqQ rfl rfl (yAssign (v := .slice _ _ _) rfl rfl) ?_
      refine seqNil ?_
      refine hF11 _ _ ?_; clear hF11
      refine wpSeq fun F12 hF12 => ?_
      refine wpRegion ?_
      refine seqQ rfl rfl (yMove (v := .slice _ _ _) rfl rfl) ?_
      refine seqQ rfl rfl (yLen rfl Try.underlying106 rfl) ?_
      refine seqQ rfl rfl (yMove (v := .int _ _) rfl rfl) ?_
      refine seqNil ?_
      refine hF12 _ _ ?_; clear hF12
      -- loop
      refine wpBlock ?_
      refine wpLoopS [2, 3, 4, 7, 8, 9, 10, 23, 24, 25, 26, 27, 28, 29, 30, 31, 32, 33, 34, 35, 36, 37, 38, 39, 40, 41, 42, 43, 44, 45, 46, 47, 48, 49, 50, 51, 52, 53] (fun x : Nat × Nat => [(23, .int .i64 x.1), (4, .int .i64 x.2)]) (fun x H' => x.1 ≤ hs.length ∧ x.2 ≤ p * 600000 + x.1 * 100000 ∧ Ext H H' ∧ ∀ q, q < x.1 → labelsOf ((evsL hs).getD q []) false p <+: labelsOf ((evsL hs).getD p []) true q) (fun x => hs.length - x.1) (0, n) ⟨rfl, rfl, trivial⟩ ⟨Nat.zero_le _, Nat.le_trans hn (Nat.le_add_right _ _), hEp, fun p h => absurd h (by simp)⟩ ?_
      rintro ⟨q, n2⟩ J2 Hq ⟨hq, hn2, hEq, hok2⟩
      dsimp only at hq hn2 hok2
      refine wpSeq fun F13 hF13 => ?_
      refine wpRegion ?_
      refine seqQ rfl rfl (yLss rfl rfl rfl) ?_
      refine seqNil ?_
      refine hF13 _ _ ?_; clear hF13
      refine wpSeq fun F14 hF14 => ?_
      -- if t24
      refine wpIf rfl (fun hlt2 => ?_) (fun hlt2 => ?_)
      · skip
        have hql : q < hs.length := by dsimp only at hlt2; omega
        obtain ⟨aq, eq, haq⟩ := (h.1.ext hEq).at1 hql
        have hLq := h.2 _ (List.getElem_mem hql)
        have hsq := hl2 _ (List.getElem_mem hql)
        have hgq := evsL_get hql
        generalize hs[q] = Q at *
        refine wpSkip ?_
        refine hF14 _ _ ?_; clear hF14
        refine wpSeq fun F15 hF15 => ?_
        refine wpBlock ?_
        refine wpSeq fun F16 hF16 => ?_
        refine wpRegion ?_
        refine seqQ rfl rfl (yMove (v := .int _ _) rfl rfl) ?_
        refine seqQ rfl rfl (yIdxP1 rfl Try.underlying106 Try.sizeOf51 rfl rfl eq rfl hql) ?_
        refine seqQ rfl rfl (yLoad rfl Try.underlying51 rfl rfl (show cellH Hq _ = some (.slice Q.A Q.l.length Q.c) from haq)) ?_
        refine seqQ rfl rfl (yAssign (v := .int _ _) rfl rfl) ?_
        refine seqQ rfl rfl (yAssign (v := .slice _ _ _) rfl rfl) ?_
        refine seqNil ?_
        refine hF16 _ _ ?_; clear hF16
        refine wpSeq fun F17 hF17 => ?_
        refine wpRegion ?_
        refine seqQ rfl rfl (yMove (v := .slice _ _ _) rfl rfl) ?_
        refine seqQ rfl rfl (yMove (v := .int _ _) rfl rfl) ?_
        -- e slot 30: call F78<farandole/word.labels> t28 [b:true] t29
        refine seqE rfl rfl (stepCall rfl Try.call78 rfl ?_)
        refine (labels_c P.l P.A P.c true q Hq (hLp.ext hEq) hsp).mono ?_
        rintro v H2 ⟨o2, x2⟩
        obtain ⟨S, sc, rfl, hsc, -⟩ := o2.form
        rw [← hgp] at o2 hsc ⊢
        refine seqQ rfl rfl (yMove (v := .slice _ _ _) rfl rfl) ?_
        refine seqQ rfl rfl (yMove (v := .int _ _) rfl rfl) ?_
        -- e slot 33: call F78<farandole/word.labels> t31 [b:false] t32
        refine seqE rfl rfl (stepCall rfl Try.call78 rfl ?_)
        refine (labels_c Q.l Q.A Q.c false p H2 ((hLq.ext hEq).ext x2) hsq).mono ?_
        rintro v H3 ⟨o3, x3⟩
        obtain ⟨G, gc, rfl, -⟩ := o3.form
        have l3 := labels_len (Q.l.map VH.ev) false p
        rw [List.length_map] at l3
        rw [← hgq] at o3 l3 ⊢
        have rS := (Own.rd (o2.ext x3)).2
        have rG := (Own.rd o3).2
        have hE3 := (hEq.trans x2).trans x3
        have hbad : ¬ labelsOf ((evsL hs).getD q []) false p <+: labelsOf ((evsL hs).getD p []) true q → ¬ MatchP (evsL hs) := fun hb hv => hb (hv.2 p (by omega) q (by omega))
        clear o2 o3 x2 x3
        generalize eqg : labelsOf ((evsL hs).getD q []) false p = got at *
        generalize eqs : labelsOf ((evsL hs).getD p []) true q = snt at *
        refine seqQ rfl rfl (yAssign (v := .slice _ _ _) rfl rfl) ?_
        refine seqQ rfl rfl (yAssign (v := .slice _ _ _) rfl rfl) ?_
        refine seqNil ?_
        refine hF17 _ _ ?_; clear hF17
        refine wpSeq fun F18 hF18 => ?_
        refine wpSeq fun F19 hF19 => ?_
        refine wpRegion ?_
        refine seqQ rfl rfl (yMove (v := .slice _ _ _) rfl rfl) ?_
        refine seqQ rfl rfl (yLen rfl Try.underlying27 rfl) ?_
        refine seqQ rfl rfl (yMove (v := .slice _ _ _) rfl rfl) ?_
        refine seqQ rfl rfl (yLen rfl Try.underlying27 rfl) ?_
        -- e slot 38: call F79<cmp.Compare[int]> t35 t37
        refine seqE rfl rfl (stepCall rfl Try.call79 rfl ?_)
        refine (compare_c got.length snt.length H3).mono ?_
        rintro v Hz ⟨rfl, e⟩
        obtain rfl := e.symm
        clear e
        refine seqQ rfl rfl (yGtr rfl rfl rfl) ?_
        -- guard t40
        rw [cmp_pos]
        refine seqG rfl rfl rfl rfl (fun hlong => ?_) (fun hlong => ?_)
        · skip
          refine seqU rfl rfl ?_
          refine seqU rfl rfl ?_
          refine seqU rfl rfl ?_
          refine seqU rfl rfl ?_
          refine seqU rfl rfl ?_
          refine seqU rfl rfl ?_
          refine seqU rfl rfl ?_
          refine seqQ rfl rfl (yPickT (v := .bool _) rfl rfl rfl) ?_
          refine seqNil ?_
          refine hF19 _ _ ?_; clear hF19
          -- if t48
          refine wpT rfl ?_
          refine wpSeq fun F20 hF20 => ?_
          refine wpRegion ?_
          refine seqQ rfl rfl (yAssign (v := .int _ _) rfl rfl) ?_
          refine seqQ rfl rfl (yAssign (v := .bool _) rfl rfl) ?_
          refine seqNil ?_
          refine hF20 _ _ ?_; clear hF20
          -- ret
          refine wpRet (fin2 (v := .int _ _) (v' := .bool _) rfl rfl rfl ?_)
          exact ⟨0, by rw [decide_eq_false (hbad fun hp => by have := hp.length_le; omega)], hE3⟩
        · skip
          have htk : (snt.take got.length).length = got.length := by rw [List.length_take]; omega
          refine seqQ rfl rfl (yMove (v := .slice _ _ _) rfl rfl) ?_
          refine seqQ rfl rfl (yMove (v := .slice _ _ _) rfl rfl) ?_
          refine seqQ rfl rfl (yMove (v := .slice _ _ _) rfl rfl) ?_
          refine seqQ rfl rfl (yLen rfl Try.underlying27 rfl) ?_
          refine seqQ rfl rfl (ySliceH rfl Try.underlying27 Try.sizeOf3 rfl rfl rfl (by omega)) ?_
          -- e slot 46: call F80<slices.Equal[[]int,int]> t41 t45
          refine seqE rfl rfl (stepCall rfl Try.call80 rfl ?_)
          have hc := sEqualL_c G S gc sc got (snt.take got.length) H3 rG (rS.take _) (by omega)
          rw [htk] at hc
          refine hc.mono ?_
          rintro v Hz ⟨rfl, e⟩
          obtain rfl := e.symm
          clear e hc
          refine seqQ rfl rfl (yNot rfl rfl) ?_
          refine seqQ rfl rfl (yPickF (v := .bool _) rfl rfl rfl) ?_
          refine seqNil ?_
          refine hF19 _ _ ?_; clear hF19
          -- if t48
          refine wpCond rfl (fun hne => ?_) (fun hne => ?_)
          · skip
            have hne : ¬ got = snt.take got.length := by simpa using hne
            refine wpSeq fun F21 hF21 => ?_
            refine wpRegion ?_
            refine seqQ rfl rfl (yAssign (v := .int _ _) rfl rfl) ?_
            refine seqQ rfl rfl (yAssign (v := .bool _) rfl rfl) ?_
            refine seqNil ?_
            refine hF21 _ _ ?_; clear hF21
            -- ret
            refine wpRet (fin2 (v := .int _ _) (v' := .bool _) rfl rfl rfl ?_)
            exact ⟨0, by rw [decide_eq_false (hbad fun hp => hne (List.prefix_iff_eq_take.1 hp))], hE3⟩
          · skip
            have hne : got = snt.take got.length := by simpa using hne
            refine wpSkip ?_
            refine hF18 _ _ ?_; clear hF18
            refine wpRegion ?_
            refine seqQ rfl rfl (yMove (v := .int _ _) rfl rfl) ?_
            refine seqQ rfl rfl (yMove (v := .slice _ _ _) rfl rfl) ?_
            refine seqQ rfl rfl (yLen rfl Try.underlying27 rfl) ?_
            refine seqQ rfl rfl (yAddE rfl rfl rfl (by unfold In64; omega) (show (n2 : Int) + (got.length : Int) = ((n2 + got.length : Nat) : Int) by omega)) ?_
            refine seqQ rfl rfl (yAssign (v := .int _ _) rfl rfl) ?_
            refine seqNil ?_
            refine hF15 _ _ ?_; clear hF15
            refine wpRegion ?_
            refine seqQ rfl rfl (yAdd rfl rfl rfl (by unfold In64; omega)) ?_
            refine seqQ rfl rfl (yMove (v := .int _ _) rfl rfl) ?_
            refine seqNil ?_
            -- end loop
            exact loopEnd (q + 1, n2 + got.length) (by repeat (first | (with_reducible exact Agree.refl _ _) | refine Agree.upd ?_ rfl | refine Agree.over ?_ rfl)) (by dsimp only; omega) ⟨rfl, rfl, trivial⟩ ⟨hql, by dsimp only; omega, hE3, fun j hj => (by
              by_cases e : j = q
              · subst e
                rw [eqg, eqs]
                exact List.prefix_iff_eq_take.2 hne
              · exact hok2 j (by omega))⟩
      · skip
        obtain rfl : q = hs.length := by dsimp only at hlt2; omega
        refine wpExit ?_
        refine hF10 _ _ ?_; clear hF10
        refine wpRegion ?_
        refine seqQ rfl rfl (yAdd rfl rfl rfl (by unfold In64; omega)) ?_
        refine seqQ rfl rfl (yMove (v := .int _ _) rfl rfl) ?_
        refine seqNil ?_
        -- end loop
        exact loopEnd (p + 1, n2) (by repeat (first | (with_reducible exact Agree.refl _ _) | refine Agree.upd ?_ rfl | refine Agree.over ?_ rfl)) (by dsimp only; omega) ⟨rfl, rfl, trivial⟩ ⟨hpl, by dsimp only; omega, hEq, fun j hj => (by
          by_cases e : j = p
          · subst e; exact hok2
          · exact hok j (by omega))⟩
    · skip
      obtain rfl : p = hs.length := by dsimp only at hlt; omega
      refine wpExit ?_
      refine hF6 _ _ ?_; clear hF6
      refine wpSeq fun F22 hF22 => ?_
      refine wpRegion ?_
      refine seqQ rfl rfl (yMove (v := .int _ _) rfl rfl) ?_
      refine seqQ rfl rfl (yAssign (v := .int _ _) rfl rfl) ?_
      refine seqQ rfl rfl (yAssign (v := .bool _) rfl rfl) ?_
      refine seqNil ?_
      refine hF22 _ _ ?_; clear hF22
      -- ret
      refine wpRet (fin2 (v := .int _ _) (v' := .bool _) rfl rfl rfl ?_)
      exact ⟨n, by rw [decide_eq_true (show MatchP (evsL hs) from ⟨hP, fun a ha b hb => hok a (by omega) b (by omega)⟩)], hEp⟩
def sendsOf (l : List EH) (peer : Int) : List EH := l.filter fun x => decide (x.ev.send = true ∧ x.ev.peer = peer)
def sendsE (l : List Ent) (peer : Int) : List Ent := l.filter fun x => decide (x.ev.send = true ∧ x.ev.peer = peer)
set_option maxRecDepth 100000 in
theorem sends_map (l : List EH) (peer : Int) : (sendsOf l peer).map EH.ent = sendsE (l.map EH.ent) peer := by
  unfold sendsOf sendsE
  rw [List.filter_map]
  rfl
/-- The clock of the message number n to a role; none: there is none. -/
def sentC (l : List Ent) (peer : Int) (n : Nat) : List Int := match (sendsE l peer)[n]? with
  | some x => x.clk
  | none => []
set_option maxRecDepth 100000 in
theorem drop_yes {l : List EH} {peer : Int} {k : Nat} (hk : k < l.length) (h : l[k].ev.send = true ∧ l[k].ev.peer = peer) : sendsOf (l.drop k) peer = l[k] :: sendsOf (l.drop (k + 1)) peer := by
  rw [List.drop_eq_getElem_cons hk]
  unfold sendsOf
  rw [List.filter_cons_of_pos (by simpa using h)]
set_option maxRecDepth 100000 in
theorem drop_no {l : List EH} {peer : Int} {k : Nat} (hk : k < l.length) (h : ¬ (l[k].ev.send = true ∧ l[k].ev.peer = peer)) : sendsOf (l.drop k) peer = sendsOf (l.drop (k + 1)) peer := by
  rw [List.drop_eq_getElem_cons hk]
  unfold sendsOf
  rw [List.filter_cons_of_neg (by simpa using h)]
set_option maxRecDepth 100000 in
theorem sent_c (l : List EH) (A : Option Addr) (ca : Nat) (peer : Int) (n : Nat) (H : Heap) (h : LogRd H A l) (hl : l.length ≤ 100000) (hn : n ≤ 100000) :
    CallsH Try.prog 55 [.slice A l.length ca, .int .i64 peer, .int .i64 n] H fun v H' => (∃ C cc, v = .slice C (sentC (l.map EH.ent) peer n).length cc ∧ Rd eInt H' C (sentC (l.map EH.ent) peer n)) ∧ Ext H H' := by
  have hmap : (sendsE (l.map EH.ent) peer)[n]? = ((sendsOf l peer)[n]?).map EH.ent := by rw [← sends_map, List.getElem?_map]
  refine callsH_of Try.func55 rfl Try.ntmps55 (Nat.le_of_ble_eq_true rfl) ?_
  refine wpSeq fun F1 hF1 => ?_
  refine wpRegion ?_
  refine seqQ rfl rfl (yAssign (v := .slice _ _ _) rfl rfl) ?_
  refine seqNil ?_
  refine hF1 _ _ ?_; clear hF1
  refine wpSeq fun F2 hF2 => ?_
  refine wpSeq fun F3 hF3 => ?_
  refine wpRegion ?_
  refine seqQ rfl rfl (yMove (v := .slice _ _ _) rfl rfl) ?_
  refine seqQ rfl rfl (yLen rfl Try.underlying35 rfl) ?_
  refine seqQ rfl rfl (yMove (v := .int _ _) rfl rfl) ?_
  refine seqNil ?_
  refine hF3 _ _ ?_; clear hF3
  -- loop
  refine wpBlock ?_
  refine wpLoopS [2, 6, 8, 11, 12, 13, 14, 15, 16, 17, 18, 19, 20, 21, 22, 23, 24, 25, 26, 27, 28, 29, 30, 31] (fun x : Nat × Nat => [(11, .int .i64 x.1), (2, .int .i64 x.2)]) (fun x H' => x.1 ≤ l.length ∧ x.2 ≤ 100000 ∧ Ext H H' ∧ (sendsOf (l.drop x.1) peer)[x.2]? = (sendsOf l peer)[n]?) (fun x => l.length - x.1) (0, n) ⟨rfl, rfl, trivial⟩ ⟨Nat.zero_le _, hn, Ext.refl _, rfl⟩ ?_
  rintro ⟨k, m⟩ J Hk ⟨hk, hm, hE, hd⟩
  dsimp only at hk hm hd
  refine wpSeq fun F4 hF4 => ?_
  refine wpRegion ?_
  refine seqQ rfl rfl (yLss rfl rfl rfl) ?_
  refine seqNil ?_
  refine hF4 _ _ ?_; clear hF4
  refine wpSeq fun F5 hF5 => ?_
  -- if t12
  refine wpIf rfl (fun hlt => ?_) (fun hlt => ?_)
  · skip
    have hkl : k < l.length := by dsimp only at hlt; omega
    obtain ⟨q, eq, hq⟩ := (h.1.ext hE).at hkl
    have hci := (h.2 _ (List.getElem_mem hkl)).2
    have hyes := drop_yes (peer := peer) hkl
    have hno := drop_no (peer := peer) hkl
    generalize l[k] = x at *
    refine wpSkip ?_
    refine hF5 _ _ ?_; clear hF5
    refine wpSeq fun F6 hF6 => ?_
    refine wpBlock ?_
    refine wpSeq fun F7 hF7 => ?_
    refine wpRegion ?_
    refine seqQ rfl rfl (yIdxP rfl Try.underlying35 Try.sizeOf72 rfl rfl eq rfl hkl) ?_
    refine seqQ rfl rfl (yLoadC (cs := eEH.F x) rfl Try.underlying72 rfl Try.sizeOf72 rfl hq) ?_
    refine seqN rfl rfl (nAlloc rfl Try.zeroValue72 rfl) (fun g8 H8 hx8 hB8 hg8 hl8 => ?_)
    -- e slot None: store T72 t8 t14
    refine seqE0 rfl rfl (stepStoreB rfl (by kernel_rfl) rfl rfl rfl hB8 rfl ?_)
    intro H2 h8 hK2
    have hE2 : Ext H H2 := (hE.trans hx8).mine hK2 (by have := hE.size; simp; omega)
    refine seqNil ?_
    refine hF7 _ _ ?_; clear hF7
    refine wpSeq fun F8 hF8 => ?_
    refine wpRegion ?_
    refine seqQ rfl rfl (yFieldAddr rfl Try.underlying72 rfl Try.sizeOf26 rfl rfl) ?_
    refine seqQ rfl rfl (yFieldAddr rfl Try.underlying26 rfl Try.sizeOf4 rfl rfl) ?_
    refine seqQ rfl rfl (yLoad rfl Try.underlying4 rfl rfl (show cellH H2 ((⟨g8, 0, none⟩ : Addr).add 1) = some (.bool x.ev.send) from h8.cell (j := 1) rfl)) ?_
    -- guard t18
    refine seqGB rfl rfl rfl rfl (fun hs => ?_) (fun hs => ?_)
    · skip
      refine seqQ rfl rfl (yFieldAddr rfl Try.underlying72 rfl Try.sizeOf26 rfl rfl) ?_
      refine seqQ rfl rfl (yFieldAddr rfl Try.underlying26 rfl Try.sizeOf3 rfl rfl) ?_
      refine seqQ rfl rfl (yLoad rfl Try.underlying3 rfl rfl (show cellH H2 ((⟨g8, 0, none⟩ : Addr).add 2) = some (.int .i64 x.ev.peer) from h8.cell (j := 2) rfl)) ?_
      refine seqQ rfl rfl (yMove (v := .int _ _) rfl rfl) ?_
      refine seqQ rfl rfl (yEql rfl rfl rfl) ?_
      refine seqQ rfl rfl (yPickT (v := .bool _) rfl rfl rfl) ?_
      refine seqNil ?_
      refine hF8 _ _ ?_; clear hF8
      -- if t24
      refine wpCond rfl (fun hp => ?_) (fun hp => ?_)
      · skip
        have hp : x.ev.peer = peer := by simpa using hp
        rw [hyes ⟨hs, hp⟩] at hd
        refine wpSeq fun F9 hF9 => ?_
        refine wpSeq fun F10 hF10 => ?_
        refine wpRegion ?_
        refine seqQ rfl rfl (yMove (v := .int _ _) rfl rfl) ?_
        refine seqQ rfl rfl (yEql rfl rfl rfl) ?_
        refine seqNil ?_
        refine hF10 _ _ ?_; clear hF10
        -- if t26
        refine wpCond rfl (fun h0 => ?_) (fun h0 => ?_)
        · skip
          have h0 : m = 0 := by simp at h0; omega
          subst h0
          have e : sentC (l.map EH.ent) peer n = x.clk := by
            unfold sentC
            rw [hmap, ← hd]
            rfl
          refine wpSeq fun F11 hF11 => ?_
          refine wpRegion ?_
          refine seqQ rfl rfl (yFieldAddr rfl Try.underlying72 rfl Try.sizeOf44 rfl rfl) ?_
          refine seqQ rfl rfl (yLoad rfl Try.underlying44 rfl rfl (show cellH H2 ((⟨g8, 0, none⟩ : Addr).add 5) = some (.slice x.CA x.clk.length x.cc) from h8.cell (j := 5) rfl)) ?_
          refine seqQ rfl rfl (yAssign (v := .slice _ _ _) rfl rfl) ?_
          refine seqNil ?_
          refine hF11 _ _ ?_; clear hF11
          -- ret
          refine wpRet (fin1 (v := .slice _ _ _) rfl rfl ?_)
          rw [e]
          exact ⟨⟨x.CA, x.cc, rfl, hci.ext hE2⟩, hE2⟩
        · skip
          have h0 : ¬ m = 0 := by simp at h0; omega
          obtain ⟨m', rfl⟩ : ∃ m', m = m' + 1 := ⟨m - 1, by omega⟩
          rw [List.getElem?_cons_succ] at hd
          refine wpSkip ?_
          refine hF9 _ _ ?_; clear hF9
          refine wpRegion ?_
          refine seqQ rfl rfl (yMove (v := .int _ _) rfl rfl) ?_
          refine seqQ rfl rfl (ySubE rfl rfl rfl (by unfold In64; omega) (show ((m' + 1 : Nat) : Int) - 1 = (m' : Int) by omega)) ?_
          refine seqQ rfl rfl (yAssign (v := .int _ _) rfl rfl) ?_
          refine seqNil ?_
          refine hF6 _ _ ?_; clear hF6
          refine wpRegion ?_
          refine seqQ rfl rfl (yAdd rfl rfl rfl (by unfold In64; omega)) ?_
          refine seqQ rfl rfl (yMove (v := .int _ _) rfl rfl) ?_
          refine seqNil ?_
          -- end loop
          exact loopEnd (k + 1, m') (by repeat (first | (with_reducible exact Agree.refl _ _) | refine Agree.upd ?_ rfl | refine Agree.over ?_ rfl)) (by dsimp only; omega) ⟨rfl, rfl, trivial⟩ ⟨hkl, by dsimp only; omega, hE2, hd⟩
      · skip
        have hp : ¬ x.ev.peer = peer := by simpa using hp
        rw [hno (fun h => hp h.2)] at hd
        refine wpSkip ?_
        refine hF6 _ _ ?_; clear hF6
        refine wpRegion ?_
        refine seqQ rfl rfl (yAdd rfl rfl rfl (by unfold In64; omega)) ?_
        refine seqQ rfl rfl (yMove (v := .int _ _) rfl rfl) ?_
        refine seqNil ?_
        -- end loop
        exact loopEnd (k + 1, m) (by repeat (first | (with_reducible exact Agree.refl _ _) | refine Agree.upd ?_ rfl | refine Agree.over ?_ rfl)) (by dsimp only; omega) ⟨rfl, rfl, trivial⟩ ⟨hkl, hm, hE2, hd⟩
    · skip
      rw [hno (fun h => by rw [h.1] at hs; cases hs)] at hd
      refine seqU rfl rfl ?_
      refine seqU rfl rfl ?_
      refine seqU rfl rfl ?_
      refine seqU rfl rfl ?_
      refine seqU rfl rfl ?_
      refine seqQ rfl rfl (yPickF (v := .bool _) rfl rfl rfl) ?_
      refine seqNil ?_
      refine hF8 _ _ ?_; clear hF8
      -- if t24
      refine wpF rfl ?_
      refine wpSkip ?_
      refine hF6 _ _ ?_; clear hF6
      refine wpRegion ?_
      refine seqQ rfl rfl (yAdd rfl rfl rfl (by unfold In64; omega)) ?_
      refine seqQ rfl rfl (yMove (v := .int _ _) rfl rfl) ?_
      refine seqNil ?_
      -- end loop
      exact loopEnd (k + 1, m) (by repeat (first | (with_reducible exact Agree.refl _ _) | refine Agree.upd ?_ rfl | refine Agree.over ?_ rfl)) (by dsimp only; omega) ⟨rfl, rfl, trivial⟩ ⟨hkl, hm, hE2, hd⟩
  · skip
    obtain rfl : k = l.length := by dsimp only at hlt; omega
    have e : sentC (l.map EH.ent) peer n = [] := by
      unfold sentC
      rw [hmap, ← hd, List.drop_length]
      rfl
    refine wpExit ?_
    refine hF2 _ _ ?_; clear hF2
    refine wpSeq fun F12 hF12 => ?_
    refine wpRegion ?_
    refine seqQ rfl rfl (yAssign (v := .slice _ _ _) rfl rfl) ?_
    refine seqNil ?_
    refine hF12 _ _ ?_; clear hF12
    -- ret
    refine wpRet (fin1 (v := .slice _ _ _) rfl rfl ?_)
    rw [e]
    exact ⟨⟨none, 0, rfl, Rd.nil _ _⟩, hE⟩
end Go.Proofs.Ytbanngdijmglbaa
