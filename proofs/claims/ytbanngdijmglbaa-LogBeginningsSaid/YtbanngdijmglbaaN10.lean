/- LogBeginnings: beginnings of the logs of a conversation of up to 16 steps have right clocks exactly if they can be merged completely. Conditions: none beyond the statement's. -/
import Derived.Test.YtbanngdijmglbaaN9
namespace Go.Proofs.Ytbanngdijmglbaa
open Go.ChangeShapes Go.WideShapes Go.ChangeAt Go.RowKit Go.Deep

/-- How much of a log is left. -/
def leftN (cut : List UInt8) (q n : Nat) : Nat := n - (cut.getD q 0).toNat % (n + 1)
def cutLH (cut : List UInt8) (q : Nat) (L : LH) : LH := ⟨L.A, L.c, L.l.take (leftN cut q L.l.length)⟩
set_option maxRecDepth 100000 in
theorem leftN_le (cut : List UInt8) (q n : Nat) : leftN cut q n ≤ n := Nat.sub_le _ _
def CutI (cut : List UInt8) (lhs : List LH) (r : Nat) (ls : List LH) : Prop := ls.length = 4 ∧ ∀ (q : Nat) (L : LH), lhs[q]? = some L → ls[q]? = some (if q < r then cutLH cut q L else L)
set_option maxRecDepth 100000 in
theorem CutI.step {cut : List UInt8} {lhs ls : List LH} {r : Nat} (h : CutI cut lhs r ls) (hr : r < 4) {L : LH} (hL : lhs[r]? = some L) : CutI cut lhs (r + 1) (ls.set r (cutLH cut r L)) := by
  refine ⟨by rw [List.length_set]; exact h.1, fun q K hK => ?_⟩
  rw [List.getElem?_set]
  by_cases e : r = q
  · subst e
    obtain rfl := Option.some.inj (hK.symm.trans hL)
    rw [if_pos rfl, if_pos (by rw [h.1]; exact hr), if_pos (by omega)]
  · rw [if_neg e, h.2 q K hK]
    by_cases e2 : q < r
    · rw [if_pos e2, if_pos (by omega)]
    · rw [if_neg e2, if_neg (by omega)]
set_option maxRecDepth 100000 in
theorem CutI.mem {cut : List UInt8} {lhs ls : List LH} (h : CutI cut lhs 4 ls) (hl : lhs.length = 4) {K : LH} (hK : K ∈ ls) : ∃ (q : Nat) (L : LH), L ∈ lhs ∧ lhs[q]? = some L ∧ K = cutLH cut q L := by
  obtain ⟨q, hq, rfl⟩ := List.getElem_of_mem hK
  have hq4 : q < 4 := by rw [← h.1]; exact hq
  have hql : q < lhs.length := by omega
  have h1 := h.2 q lhs[q] (List.getElem?_eq_getElem hql)
  rw [if_pos hq4, List.getElem?_eq_getElem hq] at h1
  exact ⟨q, lhs[q], List.getElem_mem hql, List.getElem?_eq_getElem hql, Option.some.inj h1⟩
set_option maxRecDepth 100000 in
theorem CutI.ents {cut : List UInt8} {lhs ls : List LH} {c : Conv} (h : CutI cut lhs 4 ls) (hl : lhs.length = 4) (he : entsL lhs = c.logs) : ∀ r, r < 4 → (entsL ls).getD r [] = (c.L r).take (leftN cut r (c.len r)) := fun r hr => by
  have hrl : r < lhs.length := by omega
  have hrs : r < ls.length := by rw [h.1]; exact hr
  have h1 := h.2 r lhs[r] (List.getElem?_eq_getElem hrl)
  rw [if_pos hr, List.getElem?_eq_getElem hrs] at h1
  have h2 := Option.some.inj h1
  have h3 := entsL_get hrl
  rw [he] at h3
  have h3 : c.L r = lhs[r].l.map EH.ent := h3
  have h4 : c.len r = lhs[r].l.length := by show (c.L r).length = _; rw [h3, List.length_map]
  rw [entsL_get hrs, h2, h3, h4]
  show (lhs[r].l.take _).map EH.ent = _
  rw [List.map_take]
set_option maxRecDepth 100000 in
theorem beginnings_walk (l : List Act) (A : Option Addr) (ca : Nat) (cut : List UInt8) (H : Heap) (h : Rd eAct H A l) (hc4 : cut.length = 4) :
    CallsH Try.prog 7 [.slice A l.length ca, .agg (cut.flatMap eByte.F).toArray] H fun v H' => v = .bool true ∧ Ext H H' := by
  refine callsH_of Try.func7 rfl Try.ntmps7 (Nat.le_of_ble_eq_true rfl) ?_
  refine wpSeq fun F1 hF1 => ?_
  refine wpRegion ?_
  refine seqN rfl rfl (nBoxA rfl rfl) (fun g3 H3 hx3 hB3 hg3 hl3 => ?_)
  refine seqQ rfl rfl (yAssign (v := .bool _) rfl rfl) ?_
  refine seqNil ?_
  refine hF1 _ _ ?_; clear hF1
  refine wpSeq fun F2 hF2 => ?_
  refine wpSeq fun F3 hF3 => ?_
  refine wpRegion ?_
  -- e slot 12: call F10<farandole/farandolelaw57.awake> 
  refine seqE rfl rfl (stepCall rfl Try.call10 rfl ?_)
  refine (logAwake_c _).mono ?_
  rintro v Ha ⟨rfl, xa⟩
  have h3 := hB3.ext xa
  replace xa := hx3.trans xa
  refine seqQ rfl rfl (yNot rfl rfl) ?_
  refine seqQ rfl rfl (yMove (v := .bool false) rfl rfl) ?_
  refine seqQ rfl rfl (yMove (v := .slice _ _ _) rfl rfl) ?_
  refine seqQ rfl rfl (yLen rfl Try.underlying65 rfl) ?_
  refine seqQ rfl rfl (yGtr rfl rfl rfl) ?_
  refine seqQ rfl rfl (yPickF (v := .bool _) rfl rfl rfl) ?_
  refine seqNil ?_
  refine hF3 _ _ ?_; clear hF3
  -- if t18
  refine wpIf rfl (fun hgt => ?_) (fun hgt => ?_)
  · skip
    refine wpSeq fun F4 hF4 => ?_
    refine wpRegion ?_
    -- e slot 19: call F10<farandole/farandolelaw57.awake> 
    refine seqE rfl rfl (stepCall rfl Try.call10 rfl ?_)
    refine (logAwake_c _).mono ?_
    rintro v Hz ⟨rfl, xz⟩
    refine seqQ rfl rfl (yAssign (v := .bool _) rfl rfl) ?_
    refine seqNil ?_
    refine hF4 _ _ ?_; clear hF4
    -- ret
    refine wpRet (fin1 (v := .bool _) rfl rfl ?_)
    exact ⟨rfl, xa.trans xz⟩
  · skip
    refine wpSkip ?_
    refine hF2 _ _ ?_; clear hF2
    refine wpSeq fun F5 hF5 => ?_
    refine wpRegion ?_
    refine seqQ rfl rfl (yMove (v := .slice _ _ _) rfl rfl) ?_
    -- e slot 22: call F28<farandole/farandolelaw57.record> t21
    refine seqE rfl rfl (stepCall rfl Try.call28 rfl ?_)
    refine (record_c l A ca Ha (h.ext xa) (by omega)).mono ?_
    rintro v Hb ⟨gL, g6, g7, b, ⟨i0, vo, vb, ws, lhs, hs, c⟩, rfl, hgL, hi, hn, ci, cm, hvo, hvb, hE, -⟩
    dsimp only at hi hn ci cm hvo hvb
    have h3b := h3.ext hE
    have h3l := h3.lt
    replace hE := xa.trans hE
    obtain ⟨OA, oc, rfl, -⟩ := (cm.ord vo hvo).form
    obtain ⟨BA, bc, rfl, -⟩ := (cm.bef vb hvb).form
    have hn16 : c.n ≤ 16 := by omega
    have hzH := xa.size
    refine seqQ rfl rfl (yMove (v := .tuple _) rfl rfl) ?_
    refine seqQ rfl rfl (yExtract (v := .slice _ _ _) rfl rfl rfl) ?_
    refine seqQ rfl rfl (yExtract (v := .slice _ _ _) rfl rfl rfl) ?_
    refine seqQ rfl rfl (yExtract (v := .slice _ _ _) rfl rfl rfl) ?_
    refine seqQ rfl rfl (yExtract (v := .bool _) rfl rfl rfl) ?_
    refine seqQ rfl rfl (yAssign (v := .slice _ _ _) rfl rfl) ?_
    refine seqQ rfl rfl (yAssign (v := .slice _ _ _) rfl rfl) ?_
    refine seqQ rfl rfl (yAssign (v := .slice _ _ _) rfl rfl) ?_
    refine seqQ rfl rfl (yAssign (v := .bool _) rfl rfl) ?_
    refine seqNil ?_
    refine hF5 _ _ ?_; clear hF5
    refine wpSeq fun F6 hF6 => ?_
    refine wpSeq fun F7 hF7 => ?_
    refine wpRegion ?_
    refine seqQ rfl rfl (yMove (v := .bool _) rfl rfl) ?_
    refine seqQ rfl rfl (yNot rfl rfl) ?_
    refine seqQ rfl rfl (yMove (v := .bool false) rfl rfl) ?_
    refine seqQ rfl rfl (yMove (v := .slice _ _ _) rfl rfl) ?_
    refine seqQ rfl rfl (yLen rfl Try.underlying36 rfl) ?_
    refine seqQ rfl rfl (yNeq rfl rfl rfl) ?_
    refine seqQ rfl rfl (yPickF (v := .bool _) rfl rfl rfl) ?_
    refine seqNil ?_
    refine hF7 _ _ ?_; clear hF7
    -- if t33
    refine wpF rfl ?_
    refine wpSkip ?_
    refine hF6 _ _ ?_; clear hF6
    refine wpSeq fun F8 hF8 => ?_
    refine wpSeq fun F9 hF9 => ?_
    refine wpRegion ?_
    refine seqQ rfl rfl (yMove (v := .slice _ _ _) rfl rfl) ?_
    refine seqQ rfl rfl (yLen rfl Try.underlying36 rfl) ?_
    refine seqQ rfl rfl (yMove (v := .int _ _) rfl rfl) ?_
    refine seqNil ?_
    refine hF9 _ _ ?_; clear hF9
    -- loop
    refine wpBlock ?_
    refine wpLoopS [9, 36, 37, 38, 39, 40, 41, 42, 43, 44, 45, 46, 47, 48, 49, 50, 51, 52, 53, 54, 55, 56, 57, 58, 59, 60, 61, 62, 63, 64] (fun z : Nat × List LH => [(36, .int .i64 z.1)]) (fun z H' => z.1 ≤ 4 ∧ Keep [gL] Hb H' ∧ Own eLH 35 H' 0 (.slice (some ⟨gL, 0, none⟩) 4 4) z.2 ∧ CutI cut lhs z.1 z.2) (fun z => 4 - z.1) (0, lhs) ⟨rfl, trivial⟩ ⟨Nat.zero_le _, Keep.refl _ _, cm.logs, cm.l4, fun q L hL => by rw [if_neg (Nat.not_lt_zero q)]; exact hL⟩ ?_
    rintro ⟨r, ls⟩ J Hr ⟨hr, hKr, ow, hcut⟩
    dsimp only at hr ow hcut
    have hEr : Ext H Hr := hE.mine hKr (by simp; omega)
    have h3r := h3b.keep hKr (by simp; omega)
    refine wpSeq fun F10 hF10 => ?_
    refine wpRegion ?_
    refine seqQ rfl rfl (yLss rfl rfl rfl) ?_
    refine seqNil ?_
    refine hF10 _ _ ?_; clear hF10
    refine wpSeq fun F11 hF11 => ?_
    -- if t37
    refine wpIf rfl (fun hlt => ?_) (fun hlt => ?_)
    · skip
      have hr4 : r < 4 := by dsimp only at hlt; omega
      obtain ⟨L, hL1, hL2, hL3⟩ := cm.at_ hr4
      have hcr := hcut.2 r L hL1
      rw [if_neg (Nat.lt_irrefl r)] at hcr
      have hlg := rd_at ow hcr
      have hcap := (cm.lg L hL2).cap
      have hlen : L.l.length ≤ 16 := by
        have h1 := congrArg List.length hL3
        rw [List.length_map] at h1
        have h2 := ci.len_le hr4
        have h4 : c.len r = (c.L r).length := rfl
        omega
      have hcu : (cut.flatMap eByte.F)[r]? = some (.int .u8 ((cut.getD r 0).toNat : Int)) := by
        have := eByte.flat_get cut r 0 (cut.getD r 0) (by rw [List.getElem?_eq_getElem (by omega), getD_lt (by omega)]) (by decide)
        rw [show eByte.sz = 1 from rfl, Nat.mul_one, Nat.add_zero] at this
        rw [this]
        rfl
      have hmod : (((cut.getD r 0).toNat : Nat) : Int) % ((L.l.length : Int) + 1) = (((cut.getD r 0).toNat % (L.l.length + 1) : Nat) : Int) := by
        rw [Int.natCast_emod]
        rfl
      have hml : (cut.getD r 0).toNat % (L.l.length + 1) < L.l.length + 1 := Nat.mod_lt _ (Nat.succ_pos _)
      have hcl : (cutLH cut r L).l.length = L.l.length - (cut.getD r 0).toNat % (L.l.length + 1) := by
        show (L.l.take (leftN cut r L.l.length)).length = _
        rw [List.length_take]
        unfold leftN
        omega
      refine wpSkip ?_
      refine hF11 _ _ ?_; clear hF11
      refine wpSeq fun F12 hF12 => ?_
      refine wpBlock ?_
      refine wpSeq fun F13 hF13 => ?_
      refine wpRegion ?_
      refine seqQ rfl rfl (yMove (v := .int _ _) rfl rfl) ?_
      refine seqQ rfl rfl (yAssign (v := .int _ _) rfl rfl) ?_
      refine seqNil ?_
      refine hF13 _ _ ?_; clear hF13
      refine wpRegionD Try_mixed [.q, .q, .q, .q, .q, .q, .q, .q, .q, .q, .q, .q, .q, .q, .q, .q, .q, .q, .q, .q, .q, .q, .q, .q, .q, .e] 24 [0, 0, 0, 0, 12, 28, 0, 0, 192, 448, 960, 0, 2048, 6144, 14336, 0, 0, 98304, 229376, 491520, 1015808, 2095104, 4194240, 8388604, 16777215, 33554431] [] (by kernel_rfl) _ rfl [0, 1, 2, 3, 4, 5, 6, 7, 8, 9, 10, 11, 12, 13, 14, 15, 16, 17, 18, 19, 20, 21, 22, 23] rfl (by simp) ?_
      refine lexQ rfl rfl rfl rfl (fun H hM => (yMove (v := .slice _ _ _) rfl rfl)) ?_
      refine lexQ rfl rfl rfl rfl (fun H hM => (yMove (v := .int _ _) rfl rfl)) ?_
      refine lexQ rfl rfl rfl rfl (fun H hM => (yMove (v := .slice _ _ _) rfl rfl)) ?_
      refine lexQ rfl rfl rfl rfl (fun H hM => (yMove (v := .int _ _) rfl rfl)) ?_
      refine lexQ rfl rfl rfl rfl (fun H hM => (yIdx1 rfl Try.underlying36 Try.sizeOf35 rfl rfl rfl hr4)) ?_
      refine lexQ rfl rfl rfl rfl (fun H hM => (yLoad rfl Try.underlying35 rfl rfl (hM.ext.cell (show cellH Hr _ = some (.slice L.A L.l.length L.c) from hlg)))) ?_
      refine lexQ rfl rfl rfl rfl (fun H hM => (yMove (v := .slice _ _ _) rfl rfl)) ?_
      refine lexQ rfl rfl rfl rfl (fun H hM => (yMove (v := .int _ _) rfl rfl)) ?_
      refine lexQ rfl rfl rfl rfl (fun H hM => (yIdx1 rfl Try.underlying36 Try.sizeOf35 rfl rfl rfl hr4)) ?_
      refine lexQ rfl rfl rfl rfl (fun H hM => (yLoad rfl Try.underlying35 rfl rfl (hM.ext.cell (show cellH Hr _ = some (.slice L.A L.l.length L.c) from hlg)))) ?_
      refine lexQ rfl rfl rfl rfl (fun H hM => (yLen rfl Try.underlying35 rfl)) ?_
      refine lexQ rfl rfl rfl rfl (fun H hM => (yMove (v := .int _ _) rfl rfl)) ?_
      refine lexQ rfl rfl rfl rfl (fun H hM => (yIdxA1 rfl Try.underlying74 Try.sizeOf5 rfl rfl rfl hr4)) ?_
      refine lexQ rfl rfl rfl rfl (fun H hM => (yLoad rfl Try.underlying5 rfl rfl (hM.ext.cell (show cellH Hr ((⟨g3, 0, none⟩ : Addr).add r) = some (.int .u8 ((cut.getD r 0).toNat : Int)) from h3r.cell hcu)))) ?_
      refine lexQ rfl rfl rfl rfl (fun H hM => (yConv rfl Try.underlying5 Try.underlying3 rfl (show IntKind.i64.wrap ((cut.getD r 0).toNat : Int) = (((cut.getD r 0).toNat : Nat) : Int) by rw [IntKind.wrap_i64]; have := (cut.getD r 0).toNat_lt; omega))) ?_
      refine lexQ rfl rfl rfl rfl (fun H hM => (yMove (v := .slice _ _ _) rfl rfl)) ?_
      refine lexQ rfl rfl rfl rfl (fun H hM => (yMove (v := .int _ _) rfl rfl)) ?_
      refine lexQ rfl rfl rfl rfl (fun H hM => (yIdx1 rfl Try.underlying36 Try.sizeOf35 rfl rfl rfl hr4)) ?_
      refine lexQ rfl rfl rfl rfl (fun H hM => (yLoad rfl Try.underlying35 rfl rfl (hM.ext.cell (show cellH Hr _ = some (.slice L.A L.l.length L.c) from hlg)))) ?_
      refine lexQ rfl rfl rfl rfl (fun H hM => (yLen rfl Try.underlying35 rfl)) ?_
      refine lexQ rfl rfl rfl rfl (fun H hM => (yAdd rfl rfl rfl (by unfold In64; omega))) ?_
      refine lexQ rfl rfl rfl rfl (fun H hM => (yRemK (c := (((cut.getD r 0).toNat % (L.l.length + 1) : Nat) : Int)) rfl rfl rfl (by omega) hmod)) ?_
      refine lexQ rfl rfl rfl rfl (fun H hM => (ySubE rfl rfl rfl (by unfold In64; omega) (show (L.l.length : Int) - (((cut.getD r 0).toNat % (L.l.length + 1) : Nat) : Int) = (((cutLH cut r L).l.length : Nat) : Int) by rw [hcl]; omega))) ?_
      refine lexQ rfl rfl rfl rfl (fun H hM => (ySliceH rfl Try.underlying35 Try.sizeOf72 rfl rfl rfl (by rw [hcl]; omega))) ?_
      -- tail
      refine lexNil0 rfl (fun hM => ?_)
      refine seqQ rfl rfl (yIdx1 rfl Try.underlying36 Try.sizeOf35 rfl rfl rfl hr4) ?_
      -- e slot None: store T35 t63 t62
      refine seqE0 rfl rfl (stepStoreOwn (z := (cutLH cut r L)) ow rfl Try.sizeOf35 rfl rfl rfl rfl (by rw [hcut.1]; exact hr4) ?_)
      intro Hs os hKs
      refine seqNil ?_
      refine hF12 _ _ ?_; clear hF12
      refine wpRegion ?_
      refine seqQ rfl rfl (yAdd rfl rfl rfl (by unfold In64; omega)) ?_
      refine seqQ rfl rfl (yMove (v := .int _ _) rfl rfl) ?_
      refine seqNil ?_
      -- end loop
      exact loopEnd (r + 1, _) (by repeat (first | (with_reducible exact Agree.refl _ _) | refine Agree.upd ?_ rfl | refine Agree.over ?_ rfl)) (by dsimp only; omega) ⟨rfl, trivial⟩ ⟨hr4, hKr.trans hKs, os, hcut.step hr4 hL1⟩
    · skip
      obtain rfl : r = 4 := by dsimp only at hlt; omega
      have cml := cm.lg
      have rd0 : LogsRd Hr (some ⟨gL, 0, none⟩) ls := ⟨(Own.rd ow).2, fun K hK => by
        obtain ⟨q, L, hL, hLq, rfl⟩ := hcut.mem cm.l4 hK
        have hrd := ((cml L hL).tr (T' := [] ++ [gL, g6, g7] ++ rowsB ws) (Tr.store hKr (by simp))).rd (fun x hx => by
          obtain ⟨q2, hq2, rfl⟩ := List.getElem_of_mem hL
          have h1 := entsL_get hq2
          rw [cm.lmap] at h1
          refine (ci.lab q2 (by rw [← cm.l4]; exact hq2) x.ent ?_).2
          show x.ent ∈ c.logs.getD q2 []
          rw [h1]
          exact List.mem_map_of_mem hx)
        exact ⟨hrd.1.take _, fun x hx => hrd.2 x (List.mem_of_mem_take hx)⟩⟩
      have sm0 : LogsSm ls := ⟨by rw [hcut.1]; decide, fun K hK => by
        obtain ⟨q, L, hL, hLq, rfl⟩ := hcut.mem cm.l4 hK
        have hs := (cm.sms ci).2 L hL
        exact ⟨by show (L.l.take _).length ≤ _; rw [List.length_take]; have := hs.1; omega, fun x hx => hs.2 x (List.mem_of_mem_take hx)⟩⟩
      have hcutR := ci.cut (ls := entsL ls) (by rw [entsL_len]; exact hcut.1) _ (hcut.ents cm.l4 cm.lmap)
      have hM := merge_c ls (some ⟨gL, 0, none⟩) 4 Hr rd0 sm0
      rw [hcut.1] at hM
      refine wpExit ?_
      refine hF8 _ _ ?_; clear hF8
      refine wpSeq fun F14 hF14 => ?_
      refine wpRegion ?_
      refine seqQ rfl rfl (yMove (v := .slice _ _ _) rfl rfl) ?_
      -- e slot 67: call F24<farandole/log.Merge> t66
      refine seqE rfl rfl (stepCall rfl Try.call24 rfl ?_)
      refine hM.mono ?_
      rintro v Hx ⟨O, oc2, rfl, oo, xx⟩
      clear hM
      have hR := right_c ls (some ⟨gL, 0, none⟩) 4 Hx (rd0.ext xx) sm0
      rw [hcut.1] at hR
      refine seqQ rfl rfl (yMove (v := .tuple _) rfl rfl) ?_
      refine seqQ rfl rfl (yExtract (v := .slice _ _ _) rfl rfl rfl) ?_
      refine seqQ rfl rfl (yExtract (v := .int _ _) rfl rfl rfl) ?_
      refine seqQ rfl rfl (yAssign (v := .slice _ _ _) rfl rfl) ?_
      refine seqQ rfl rfl (yAssign (v := .int _ _) rfl rfl) ?_
      refine seqNil ?_
      refine hF14 _ _ ?_; clear hF14
      refine wpSeq fun F15 hF15 => ?_
      refine wpRegion ?_
      refine seqQ rfl rfl (yMove (v := .slice _ _ _) rfl rfl) ?_
      -- e slot 71: call F26<farandole/log.Right> t70
      refine seqE rfl rfl (stepCall rfl Try.call26 rfl ?_)
      refine hR.mono ?_
      rintro v Hy ⟨rfl, xy⟩
      refine seqQ rfl rfl (yMove (v := .int _ _) rfl rfl) ?_
      refine seqQ rfl rfl (yEql rfl rfl rfl) ?_
      refine seqQ rfl rfl (yEqlB rfl Try.underlying4 rfl rfl) ?_
      refine seqQ rfl rfl (yAssign (v := .bool _) rfl rfl) ?_
      refine seqNil ?_
      refine hF15 _ _ ?_; clear hF15
      -- ret
      refine wpRet (fin1 (v := .bool _) rfl rfl ?_)
      exact ⟨by rw [decide_eq_decide.2 hcutR, beq_self_eq_true], (hEr.trans xx).trans xy⟩
set_option maxRecDepth 100000 in
theorem opn_cut (W : World) : Opn Try.prog W 74 4 (fun l : List UInt8 => l.flatMap eByte.F) (fun l => l.length = 4 ∧ ∀ x ∈ l, True) := opn_array Try.underlying74 (by kernel_rfl) rfl (opn_byte Try.underlying5 (by kernel_rfl))
set_option maxRecDepth 100000 in
set_option maxRecDepth 100000 in
theorem logBeginnings_lifted (os : Os) (started : os.Started) (H : Type) (enc : TypeId × Value → H) :
    ReturnsInHanded {} Try.checked os 7 .any (Rows.logBeginningsSpec.pre6 enc Try.prog Try.f7 Rows.logBeginningsRow.domain false) (Rows.logBeginningsSpec.post enc Try.prog Try.f7 false true false false) := by
  refine law_lifted started Rows.logBeginningsSpec rfl (by kernel_rfl) Try.func7 rfl
    (fun ds h => by match ds, h with | [_, _], _ => rfl) (of_decide_eq_true (by kernel_rfl))
    (ChangeSpec.witness6 (enc := enc) (C := Try.checked) false ⟨#[], #[.slice none 0 0, .agg #[.int .u8 0, .int .u8 0, .int .u8 0, .int .u8 0]], []⟩ 8 (by kernel_rfl) (by kernel_rfl) (by kernel_rfl) (by kernel_rfl)) ?_
  intro W base args ds p hval hA
  rw [Try.params7] at hA hval
  obtain ⟨v0, v1, d0, d1, p0, p1, rfl, rfl, rfl, h0, h1⟩ := trodAll_two hA
  have g0 := hval 0 _ v0 rfl rfl
  have g1 := hval 1 _ v1 rfl rfl
  obtain ⟨⟨A, ca, l⟩, rfl, kA, -⟩ := (opn_acts W).one (one_slice Try.underlying65 g0) h0
  obtain ⟨cut, rfl, k4, -⟩ := (opn_cut W).agg Try.underlying74 rfl g1 h1
  exact beginnings_walk l A ca cut W.heap kA k4
set_option maxRecDepth 100000 in
theorem logBeginnings_holds : Rows.LogBeginningsSaid :=
  OpenClaim.holds_of_wide 7 Try.f7 rfl rfl rfl rfl rfl rfl rfl ⟨rfl, rfl, rfl, rfl, rfl⟩ rfl rfl rfl rfl rfl (by kernel_rfl) Try.func7 (by kernel_rfl)
    (of_decide_eq_true (by kernel_rfl)) (by unfold Func.isWrapper; first | (rw [if_pos (by decide +kernel)]; kernel_rfl) | (rw [if_neg (by decide +kernel)]; exact ⟨rfl, rfl⟩))
    (fun os started H enc _ => logBeginnings_lifted os started H enc)
end Go.Proofs.Ytbanngdijmglbaa
