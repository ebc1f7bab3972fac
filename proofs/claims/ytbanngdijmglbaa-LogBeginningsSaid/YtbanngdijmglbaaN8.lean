/- LogCausal: in a conversation of up to 16 steps, one entry is before another one, by a chain of entries of one role and of messages, exactly if its clock is. Conditions: none beyond the statement's. -/
import Derived.Test.YtbanngdijmglbaaN7
import Derived.Test.YtbanngdijmglbaaM17
namespace Go.Proofs.Ytbanngdijmglbaa
open Go.ChangeShapes Go.WideShapes Go.ChangeAt Go.RowKit Go.Deep

set_option maxRecDepth 100000 in
theorem opn_acts (W : World) : Opn Try.prog W 65 1 (fun a : Option Addr × Nat × List Act => [.slice a.1 a.2.2.length a.2.1]) (fun a => Rd eAct W.heap a.1 a.2.2 ∧ (∀ x ∈ a.2.2, True) ∧ a.2.2.length ≤ a.2.1 ∧ a.2.1 ≤ maxLen) :=
  opn_slice (c := eAct) Try.underlying65 (by kernel_rfl)
    ((opn_struct Try.underlying117 (by kernel_rfl) (opnF_cons rfl (opn_byte Try.underlying5 (by kernel_rfl)) (opnF_cons rfl (opn_byte Try.underlying5 (by kernel_rfl)) (opnF_cons rfl (opn_bool Try.underlying4 (by kernel_rfl)) (opnF_nil rfl))))).map
      (fun a : UInt8 × UInt8 × Bool × Unit => (⟨a.1.toNat, a.2.1.toNat, a.2.2.1⟩ : Act)) (fun _ => rfl) (fun _ _ => trivial))
set_option maxRecDepth 100000 in
theorem CM.entry {X : List Nat} {gL g6 g7 b : Nat} {ws : List Value} {lhs : List LH} {hs : List Hdr} {c : Conv} {H : Heap} (cm : CM X gL g6 g7 b ws lhs hs c H) (ci : ConvI c) {OA : Option Addr} {n oc : Nat} (hvo : ws[16]? = some (.slice OA n oc)) {k : Nat} (hk : k < c.n) :
    ∃ (qo : Addr) (L : LH) (q : Addr) (y : EH), OA = some qo ∧ cellH H ((qo.add (k * 2)).add 0) = some (.int .i64 (c.rl k : Nat)) ∧ cellH H ((qo.add (k * 2)).add 1) = some (.int .i64 (c.ix k : Nat)) ∧ c.rl k < 4 ∧ lhs[c.rl k]? = some L ∧ L ∈ lhs ∧
      cellH H ((⟨gL, 0, none⟩ : Addr).add (c.rl k)) = some (.slice L.A L.l.length L.c) ∧ c.ix k < L.l.length ∧ L.l[c.ix k]? = some y ∧ L.A = some q ∧ (∀ i u, (ehF y)[i]? = some u → cellH H ((q.add (c.ix k * 6)).add i) = some u) ∧ Rd eInt H y.CA y.clk ∧ y.clk = c.ck k ∧ L.l.map EH.ent = c.L (c.rl k) := by
  obtain ⟨r4, il⟩ := ci.inv.role k hk
  have hkl : k < c.order.length := hk
  obtain ⟨qo, eqo, hqo⟩ := (Own.rd (cm.ord _ hvo)).2.at hkl
  have e1 : c.order[k].1 = c.rl k := congrArg Prod.fst (getD_lt (z := (0, 0)) hkl).symm
  have e2 : c.order[k].2 = c.ix k := congrArg Prod.snd (getD_lt (z := (0, 0)) hkl).symm
  have h0 : cellH H ((qo.add (k * 2)).add 0) = some (.int .i64 ((c.order[k].1 : Nat) : Int)) := hqo 0 _ rfl
  have h1 : cellH H ((qo.add (k * 2)).add 1) = some (.int .i64 ((c.order[k].2 : Nat) : Int)) := hqo 1 _ rfl
  rw [e1] at h0
  rw [e2] at h1
  obtain ⟨L, hL1, hL2, hL3⟩ := cm.at_ r4
  have hil : c.ix k < L.l.length := by
    have h2 := congrArg List.length hL3
    rw [List.length_map] at h2
    rw [h2]
    exact il
  have rdL := (cm.rdLogs ci.lab).2 L hL2
  obtain ⟨q, eq, hq⟩ := rdL.1.at hil
  have hye := (rdL.2 _ (List.getElem_mem hil)).2
  have hyc : L.l[c.ix k].clk = c.ck k := by
    unfold Conv.ck clkAt
    show _ = ((c.L (c.rl k)).getD (c.ix k) ent0).clk
    rw [← hL3, getD_ent _ hil]
    rfl
  have hlg := rd_at cm.logs hL1
  exact ⟨qo, L, q, L.l[c.ix k], eqo, h0, h1, r4, hL1, hL2, hlg, hil, List.getElem?_eq_getElem hil, eq, hq, hye, hyc, hL3⟩
set_option maxRecDepth 100000 in
theorem causal_walk (l : List Act) (A : Option Addr) (ca : Nat) (H : Heap) (h : Rd eAct H A l) :
    CallsH Try.prog 6 [.slice A l.length ca] H fun v H' => v = .bool true ∧ Ext H H' := by
  refine callsH_of Try.func6 rfl Try.ntmps6 (Nat.le_of_ble_eq_true rfl) ?_
  refine wpSeq fun F1 hF1 => ?_
  refine wpRegion ?_
  refine seqQ rfl rfl (yAssign (v := .bool _) rfl rfl) ?_
  refine seqNil ?_
  refine hF1 _ _ ?_; clear hF1
  refine wpSeq fun F2 hF2 => ?_
  refine wpSeq fun F3 hF3 => ?_
  refine wpRegion ?_
  -- e slot 11: call F10<farandole/farandolelaw57.awake> 
  refine seqE rfl rfl (stepCall rfl Try.call10 rfl ?_)
  refine (logAwake_c _).mono ?_
  rintro v Ha ⟨rfl, xa⟩
  refine seqQ rfl rfl (yNot rfl rfl) ?_
  refine seqQ rfl rfl (yMove (v := .bool false) rfl rfl) ?_
  refine seqQ rfl rfl (yMove (v := .slice _ _ _) rfl rfl) ?_
  refine seqQ rfl rfl (yLen rfl Try.underlying65 rfl) ?_
  refine seqQ rfl rfl (yGtr rfl rfl rfl) ?_
  refine seqQ rfl rfl (yPickF (v := .bool _) rfl rfl rfl) ?_
  refine seqNil ?_
  refine hF3 _ _ ?_; clear hF3
  -- if t17
  refine wpIf rfl (fun hgt => ?_) (fun hgt => ?_)
  · skip
    refine wpSeq fun F4 hF4 => ?_
    refine wpRegion ?_
    -- e slot 18: call F10<farandole/farandolelaw57.awake> 
    refine seqE rfl rfl (stepCall rfl Try.call10 rfl ?_)
    refine (logAwake_c _).mono ?_
    rintro v Hz ⟨rfl, xz⟩
    refine seqQ rfl rfl (yAssign (v := .bool _) rfl rfl) ?_
    refine seqNil ?_
    refine hF4 _ _ ?_; clear hF4
    -- ret
    refine wpRet (fin1 (v := .bool _) rfl rfl ?_)
    exact ⟨rfl, xa.trans xz⟩
  · skip
    refine wpSkip ?_
    refine hF2 _ _ ?_; clear hF2
    refine wpSeq fun F5 hF5 => ?_
    refine wpRegion ?_
    refine seqQ rfl rfl (yMove (v := .slice _ _ _) rfl rfl) ?_
    -- e slot 21: call F28<farandole/farandolelaw57.record> t20
    refine seqE rfl rfl (stepCall rfl Try.call28 rfl ?_)
    refine (record_c l A ca Ha (h.ext xa) (by omega)).mono ?_
    rintro v Hb ⟨gL, g6, g7, b, ⟨i0, vo, vb, ws, lhs, hs, c⟩, rfl, hgL, hi, hn, ci, cm, hvo, hvb, hE, -⟩
    dsimp only at hi hn ci cm hvo hvb
    replace hE := xa.trans hE
    obtain ⟨OA, oc, rfl, -⟩ := (cm.ord vo hvo).form
    obtain ⟨BA, bc, rfl, -⟩ := (cm.bef vb hvb).form
    have hn16 : c.n ≤ 16 := by omega
    have hcn : c.n = c.order.length := rfl
    refine seqQ rfl rfl (yMove (v := .tuple _) rfl rfl) ?_
    refine seqQ rfl rfl (yExtract (v := .slice _ _ _) rfl rfl rfl) ?_
    refine seqQ rfl rfl (yExtract (v := .slice _ _ _) rfl rfl rfl) ?_
    refine seqQ rfl rfl (yExtract (v := .slice _ _ _) rfl rfl rfl) ?_
    refine seqQ rfl rfl (yExtract (v := .bool _) rfl rfl rfl) ?_
    refine seqQ rfl rfl (yAssign (v := .slice _ _ _) rfl rfl) ?_
    refine seqQ rfl rfl (yAssign (v := .slice _ _ _) rfl rfl) ?_
    refine seqQ rfl rfl (yAssign (v := .slice _ _ _) rfl rfl) ?_
    refine seqQ rfl rfl (yAssign (v := .bool _) rfl rfl) ?_
    refine seqNil ?_
    refine hF5 _ _ ?_; clear hF5
    refine wpSeq fun F6 hF6 => ?_
    refine wpSeq fun F7 hF7 => ?_
    refine wpRegion ?_
    refine seqQ rfl rfl (yMove (v := .bool _) rfl rfl) ?_
    refine seqQ rfl rfl (yNot rfl rfl) ?_
    refine seqNil ?_
    refine hF7 _ _ ?_; clear hF7
    -- if t27
    refine wpF rfl ?_
    refine wpSkip ?_
    refine hF6 _ _ ?_; clear hF6
    refine wpSeq fun F8 hF8 => ?_
    refine wpSeq fun F9 hF9 => ?_
    refine wpRegion ?_
    refine seqQ rfl rfl (yMove (v := .slice _ _ _) rfl rfl) ?_
    refine seqQ rfl rfl (yLen rfl Try.underlying55 rfl) ?_
    refine seqQ rfl rfl (yMove (v := .int _ _) rfl rfl) ?_
    refine seqNil ?_
    refine hF9 _ _ ?_; clear hF9
    -- loop
    refine wpBlock ?_
    refine wpLoopS [2, 7, 8, 9, 10, 30, 31, 32, 33, 34, 35, 36, 37, 38, 39, 40, 41, 42, 43, 44, 45, 46, 47, 48, 49, 50, 51, 52, 53, 54, 55, 56, 57, 58, 59, 60, 61, 62, 63, 64, 65, 66, 67, 68, 69, 70, 71, 72, 73, 74, 75, 76, 77, 78, 79, 80, 81, 82, 83, 84, 85, 86] (fun i : Nat => [(30, .int .i64 i)]) (fun i H' => i ≤ c.n ∧ H' = Hb) (fun i => c.n - i) 0 ⟨rfl, trivial⟩ ⟨Nat.zero_le _, rfl⟩ ?_
    rintro i J Hi ⟨hin, e⟩
    obtain rfl := e.symm
    clear e
    refine wpSeq fun F10 hF10 => ?_
    refine wpRegion ?_
    refine seqQ rfl rfl (yLss rfl rfl rfl) ?_
    refine seqNil ?_
    refine hF10 _ _ ?_; clear hF10
    refine wpSeq fun F11 hF11 => ?_
    -- if t31
    refine wpIf rfl (fun hlt => ?_) (fun hlt => ?_)
    · skip
      have hil : i < c.n := by omega
      obtain ⟨qo, L, q, y, eqo, hr, hx, r4, hL1, hL2, hlg, hyl, hy1, eq, hq, hye, hyc, hL3⟩ := cm.entry ci hvo hil
      refine wpSkip ?_
      refine hF11 _ _ ?_; clear hF11
      refine wpSeq fun F12 hF12 => ?_
      refine wpBlock ?_
      refine wpSeq fun F13 hF13 => ?_
      refine wpRegion ?_
      refine seqQ rfl rfl (yMove (v := .int _ _) rfl rfl) ?_
      refine seqQ rfl rfl (yAssign (v := .int _ _) rfl rfl) ?_
      refine seqNil ?_
      refine hF13 _ _ ?_; clear hF13
      refine wpSeq fun F14 hF14 => ?_
      refine wpRegion ?_
      refine seqQ rfl rfl (yMove (v := .int _ _) rfl rfl) ?_
      refine seqQ rfl rfl (yMove (v := .int _ _) rfl rfl) ?_
      refine seqNil ?_
      refine hF14 _ _ ?_; clear hF14
      -- loop
      refine wpBlock ?_
      refine wpLoopS [2, 8, 9, 10, 34, 35, 36, 37, 38, 39, 40, 41, 42, 43, 44, 45, 46, 47, 48, 49, 50, 51, 52, 53, 54, 55, 56, 57, 58, 59, 60, 61, 62, 63, 64, 65, 66, 67, 68, 69, 70, 71, 72, 73, 74, 75, 76, 77, 78, 79, 80, 81, 82, 83, 84, 85] (fun k : Nat => [(34, .int .i64 k)]) (fun k H' => k ≤ i ∧ H' = Hb) (fun k => i - k) 0 ⟨rfl, trivial⟩ ⟨Nat.zero_le _, rfl⟩ ?_
      rintro k J2 Hk ⟨hk, e⟩
      obtain rfl := e.symm
      clear e
      refine wpSeq fun F15 hF15 => ?_
      refine wpRegion ?_
      refine seqQ rfl rfl (yLss rfl rfl rfl) ?_
      refine seqNil ?_
      refine hF15 _ _ ?_; clear hF15
      refine wpSeq fun F16 hF16 => ?_
      -- if t35
      refine wpIf rfl (fun hlk => ?_) (fun hlk => ?_)
      · skip
        have hki : k < i := by omega
        obtain ⟨qo2, L2, q2, y2, eqo2, hr2, hx2, r42, hM1, hM2, hlg2, hyl2, hy2, eq2, hq2, hye2, hyc2, hM3⟩ := cm.entry ci hvo (show k < c.n by omega)
        have hbl := cm.brd.1
        have hkb : i < c.before.length := by rw [ci.bl]; exact hil
        have hkh : i < hs.length := by rw [hbl]; exact hkb
        obtain ⟨hrl, hrd⟩ := cm.brd.2 i hs[i] c.before[i] (List.getElem?_eq_getElem hkh) (List.getElem?_eq_getElem hkb)
        have hbk := ci.brow i hil
        rw [getD_lt hkb] at hbk
        obtain ⟨qb, eqb, hqb⟩ := (Own.rd (cm.bef _ hvb)).2.at1 hkh
        obtain ⟨qr, eqr, hqr⟩ := hrd.rd.at1 (show k < c.before[i].length by omega)
        have hval : c.before[i][k] = (c.before.getD i []).getD k false := by rw [getD_lt hkb, getD_lt (show k < c.before[i].length by omega)]
        rw [hval] at hqr
        obtain ⟨hb1, hb2⟩ := ci.inv.before hki hil
        have hbe : beforeB (c.ck k) (c.ck i) = (c.before.getD i []).getD k false := by rw [Bool.eq_iff_iff]; exact hb1
        rw [← hbe] at hqr
        generalize hs[i] = hd at *
        rw [hbk] at hrl
        obtain ⟨h1, h2, h3⟩ := hd
        dsimp only at hrl eqr
        subst hrl
        refine wpSkip ?_
        refine hF16 _ _ ?_; clear hF16
        refine wpSeq fun F17 hF17 => ?_
        refine wpBlock ?_
        refine wpSeq fun F18 hF18 => ?_
        refine wpRegion ?_
        refine seqQ rfl rfl (yMove (v := .int _ _) rfl rfl) ?_
        refine seqQ rfl rfl (yAssign (v := .int _ _) rfl rfl) ?_
        refine seqNil ?_
        refine hF18 _ _ ?_; clear hF18
        refine wpSeq fun F19 hF19 => ?_
        refine wpRegionD Try_mixed [.q, .q, .q, .q, .q, .q, .q, .q, .q, .q, .q, .q, .q, .q, .q, .q, .q, .q, .q, .q, .q, .q, .q, .q, .q, .q, .q, .q, .q, .q, .q, .q, .q, .q] 33 [0, 0, 0, 6, 14, 30, 63, 127, 0, 0, 768, 1792, 3840, 8191, 16383, 32767, 0, 0, 0, 393216, 917504, 1966080, 4128768, 8323072, 0, 0, 50331648, 117440512, 251658240, 536805376, 1073676288, 2147418112, 65535, 8589934591] [] (by kernel_rfl) _ rfl [0, 1, 2, 3, 4, 5, 6, 7, 8, 9, 10, 11, 12, 13, 14, 15, 16, 17, 18, 19, 20, 21, 22, 23, 24, 25, 26, 27, 28, 29, 30, 31, 32] rfl (by simp) ?_
        refine lexQ rfl rfl rfl rfl (fun H hM => (yMove (v := .slice _ _ _) rfl rfl)) ?_
        refine lexQ rfl rfl rfl rfl (fun H hM => (yMove (v := .slice _ _ _) rfl rfl)) ?_
        refine lexQ rfl rfl rfl rfl (fun H hM => (yMove (v := .int _ _) rfl rfl)) ?_
        refine lexQ rfl rfl rfl rfl (fun H hM => (yIdxP rfl Try.underlying55 Try.sizeOf64 rfl rfl eqo2 rfl (show k < c.n by omega))) ?_
        refine lexQ rfl rfl rfl rfl (fun H hM => (yFieldAddr rfl Try.underlying64 rfl Try.sizeOf3 rfl rfl)) ?_
        refine lexQ rfl rfl rfl rfl (fun H hM => (yLoad rfl Try.underlying3 rfl rfl (hM.ext.cell hr2))) ?_
        refine lexQ rfl rfl rfl rfl (fun H hM => (yIdx1 rfl Try.underlying36 Try.sizeOf35 rfl rfl rfl r42)) ?_
        refine lexQ rfl rfl rfl rfl (fun H hM => (yLoad rfl Try.underlying35 rfl rfl (hM.ext.cell hlg2))) ?_
        refine lexQ rfl rfl rfl rfl (fun H hM => (yMove (v := .slice _ _ _) rfl rfl)) ?_
        refine lexQ rfl rfl rfl rfl (fun H hM => (yMove (v := .int _ _) rfl rfl)) ?_
        refine lexQ rfl rfl rfl rfl (fun H hM => (yIdxP rfl Try.underlying55 Try.sizeOf64 rfl rfl eqo2 rfl (show k < c.n by omega))) ?_
        refine lexQ rfl rfl rfl rfl (fun H hM => (yFieldAddr rfl Try.underlying64 rfl Try.sizeOf3 rfl rfl)) ?_
        refine lexQ rfl rfl rfl rfl (fun H hM => (yLoad rfl Try.underlying3 rfl rfl (hM.ext.cell hx2))) ?_
        refine lexQ rfl rfl rfl rfl (fun H hM => (yIdxP rfl Try.underlying35 Try.sizeOf72 rfl rfl eq2 rfl hyl2)) ?_
        refine lexQ rfl rfl rfl rfl (fun H hM => (yFieldAddr rfl Try.underlying72 rfl Try.sizeOf44 rfl rfl)) ?_
        refine lexQ rfl rfl rfl rfl (fun H hM => (yLoad rfl Try.underlying44 rfl rfl (hM.ext.cell (hq2 5 _ rfl)))) ?_
        refine lexQ rfl rfl rfl rfl (fun H hM => (yMove (v := .slice _ _ _) rfl rfl)) ?_
        refine lexQ rfl rfl rfl rfl (fun H hM => (yMove (v := .slice _ _ _) rfl rfl)) ?_
        refine lexQ rfl rfl rfl rfl (fun H hM => (yMove (v := .int _ _) rfl rfl)) ?_
        refine lexQ rfl rfl rfl rfl (fun H hM => (yIdxP rfl Try.underlying55 Try.sizeOf64 rfl rfl eqo rfl hil)) ?_
        refine lexQ rfl rfl rfl rfl (fun H hM => (yFieldAddr rfl Try.underlying64 rfl Try.sizeOf3 rfl rfl)) ?_
        refine lexQ rfl rfl rfl rfl (fun H hM => (yLoad rfl Try.underlying3 rfl rfl (hM.ext.cell hr))) ?_
        refine lexQ rfl rfl rfl rfl (fun H hM => (yIdx1 rfl Try.underlying36 Try.sizeOf35 rfl rfl rfl r4)) ?_
        refine lexQ rfl rfl rfl rfl (fun H hM => (yLoad rfl Try.underlying35 rfl rfl (hM.ext.cell hlg))) ?_
        refine lexQ rfl rfl rfl rfl (fun H hM => (yMove (v := .slice _ _ _) rfl rfl)) ?_
        refine lexQ rfl rfl rfl rfl (fun H hM => (yMove (v := .int _ _) rfl rfl)) ?_
        refine lexQ rfl rfl rfl rfl (fun H hM => (yIdxP rfl Try.underlying55 Try.sizeOf64 rfl rfl eqo rfl hil)) ?_
        refine lexQ rfl rfl rfl rfl (fun H hM => (yFieldAddr rfl Try.underlying64 rfl Try.sizeOf3 rfl rfl)) ?_
        refine lexQ rfl rfl rfl rfl (fun H hM => (yLoad rfl Try.underlying3 rfl rfl (hM.ext.cell hx))) ?_
        refine lexQ rfl rfl rfl rfl (fun H hM => (yIdxP rfl Try.underlying35 Try.sizeOf72 rfl rfl eq rfl hyl)) ?_
        refine lexQ rfl rfl rfl rfl (fun H hM => (yFieldAddr rfl Try.underlying72 rfl Try.sizeOf44 rfl rfl)) ?_
        refine lexQ rfl rfl rfl rfl (fun H hM => (yLoad rfl Try.underlying44 rfl rfl (hM.ext.cell (hq 5 _ rfl)))) ?_
        refine lexQ rfl rfl rfl rfl (fun H hM => (yAssign (v := .slice _ _ _) rfl rfl)) ?_
        -- tail
        refine lexNil0 rfl (fun hM => ?_)
        refine seqQ rfl rfl (yAssign (v := .slice _ _ _) rfl rfl) ?_
        refine seqNil ?_
        refine hF19 _ _ ?_; clear hF19
        refine wpSeq fun F20 hF20 => ?_
        refine wpRegionD Try_mixed [.q, .q, .e, .q, .q, .q, .q, .q, .q, .q, .q, .q, .q, .q, .e, .q] 14 [0, 0, 3, 0, 0, 24, 56, 0, 248, 504, 1023, 2047, 4095, 4095, 16383, 32767] [] (by kernel_rfl) _ rfl [0, 1, 2, 3, 4, 5, 6, 7, 8, 9, 10, 11, 12, 13] rfl (by simp) ?_
        refine lexQ rfl rfl rfl rfl (fun H hM => (yMove (v := .slice _ _ _) rfl rfl)) ?_
        refine lexQ rfl rfl rfl rfl (fun H hM => (yMove (v := .slice _ _ _) rfl rfl)) ?_
        -- e slot 71: call F29<farandole/vclock.Before> t69 t70
        refine lexX0 rfl rfl rfl rfl rfl (by simp) (fun hM71 => stepCall rfl Try.call29 rfl ?_)
        refine (before_c y2.CA y.CA y2.cc y.cc y2.clk y.clk Hb hye2 hye (by rw [hyc2, ci.inv.cklen k (by omega)]; decide) (by rw [hyc, ci.inv.cklen i hil]; decide)).mono ?_
        rintro v Hz ⟨rfl, e⟩
        obtain rfl := e.symm
        clear e
        refine ⟨Ext.refl _, fun _ => ?_⟩
        rw [hyc, hyc2]
        refine lexQ rfl rfl rfl rfl (fun H hM => (yMove (v := .slice _ _ _) rfl rfl)) ?_
        refine lexQ rfl rfl rfl rfl (fun H hM => (yMove (v := .int _ _) rfl rfl)) ?_
        refine lexQ rfl rfl rfl rfl (fun H hM => (yIdxP1 rfl Try.underlying66 Try.sizeOf69 rfl rfl eqb rfl hkh)) ?_
        refine lexQ rfl rfl rfl rfl (fun H hM => (yLoad rfl Try.underlying69 rfl rfl (hM.ext.cell (show cellH Hb _ = some (.slice h1 (i + 1) h3) from hqb)))) ?_
        refine lexQ rfl rfl rfl rfl (fun H hM => (yMove (v := .int _ _) rfl rfl)) ?_
        refine lexQ rfl rfl rfl rfl (fun H hM => (yIdxP1 rfl Try.underlying69 Try.sizeOf4 rfl rfl eqr rfl (show k < i + 1 by omega))) ?_
        refine lexQ rfl rfl rfl rfl (fun H hM => (yLoad rfl Try.underlying4 rfl rfl (hM.ext.cell (show cellH Hb _ = some (.bool (beforeB (c.ck k) (c.ck i))) from hqr)))) ?_
        refine lexQ rfl rfl rfl rfl (fun H hM => (yNeqB rfl Try.underlying4 rfl rfl)) ?_
        -- guard t80
        rw [show (!(beforeB (c.ck k) (c.ck i) == beforeB (c.ck k) (c.ck i))) = false by simp]
        refine lexQ rfl rfl rfl rfl (fun H hM => (yMove (v := .bool false) rfl rfl)) ?_
        refine lexQ rfl rfl rfl rfl (fun H hM => (yMove (v := .slice _ _ _) rfl rfl)) ?_
        refine lexQ rfl rfl rfl rfl (fun H hM => (yMove (v := .slice _ _ _) rfl rfl)) ?_
        -- tail
        refine lexNil0 rfl (fun hM => ?_)
        -- e slot 83: call F29<farandole/vclock.Before> t81 t82
        refine seqE rfl rfl (stepCall rfl Try.call29 rfl ?_)
        have hbc := before_c y.CA y2.CA y.cc y2.cc y.clk y2.clk Hb hye hye2 (by rw [hyc, ci.inv.cklen i hil]; decide) (by rw [hyc2, ci.inv.cklen k (by omega)]; decide)
        rw [hyc, hyc2] at hbc
        refine hbc.mono ?_
        rintro v Hz ⟨rfl, e⟩
        obtain rfl := e.symm
        clear e
        rw [hb2]
        refine seqQ rfl rfl (yPickF (v := .bool _) rfl rfl rfl) ?_
        refine seqNil ?_
        refine hF20 _ _ ?_; clear hF20
        -- if t84
        refine wpF rfl ?_
        refine wpSkip ?_
        refine hF17 _ _ ?_; clear hF17
        refine wpRegion ?_
        refine seqQ rfl rfl (yAdd rfl rfl rfl (by unfold In64; omega)) ?_
        refine seqQ rfl rfl (yMove (v := .int _ _) rfl rfl) ?_
        refine seqNil ?_
        -- end loop
        exact loopEnd (k + 1) (by repeat (first | (with_reducible exact Agree.refl _ _) | refine Agree.upd ?_ rfl | refine Agree.over ?_ rfl)) (by omega) ⟨rfl, trivial⟩ ⟨hki, rfl⟩
      · skip
        refine wpExit ?_
        refine hF12 _ _ ?_; clear hF12
        refine wpRegion ?_
        refine seqQ rfl rfl (yAdd rfl rfl rfl (by unfold In64; omega)) ?_
        refine seqQ rfl rfl (yMove (v := .int _ _) rfl rfl) ?_
        refine seqNil ?_
        -- end loop
        exact loopEnd (i + 1) (by repeat (first | (with_reducible exact Agree.refl _ _) | refine Agree.upd ?_ rfl | refine Agree.over ?_ rfl)) (by omega) ⟨rfl, trivial⟩ ⟨hil, rfl⟩
    · skip
      refine wpExit ?_
      refine hF8 _ _ ?_; clear hF8
      refine wpSeq fun F21 hF21 => ?_
      refine wpRegion ?_
      refine seqQ rfl rfl (yAssign (v := .bool _) rfl rfl) ?_
      refine seqNil ?_
      refine hF21 _ _ ?_; clear hF21
      -- ret
      refine wpRet (fin1 (v := .bool _) rfl rfl ?_)
      exact ⟨rfl, hE⟩
set_option maxRecDepth 100000 in
set_option maxRecDepth 100000 in
theorem logCausal_lifted (os : Os) (started : os.Started) (H : Type) (enc : TypeId × Value → H) :
    ReturnsInHanded {} Try.checked os 6 .any (Rows.logCausalSpec.pre6 enc Try.prog Try.f6 Rows.logCausalRow.domain false) (Rows.logCausalSpec.post enc Try.prog Try.f6 false true false false) := by
  refine law_lifted started Rows.logCausalSpec rfl (by kernel_rfl) Try.func6 rfl
    (fun ds h => by match ds, h with | [_], _ => rfl) (of_decide_eq_true (by kernel_rfl))
    (ChangeSpec.witness6 (enc := enc) (C := Try.checked) false ⟨#[], #[.slice none 0 0], []⟩ 8 (by kernel_rfl) (by kernel_rfl) (by kernel_rfl) (by kernel_rfl)) ?_
  intro W base args ds p hval hA
  rw [Try.params6] at hA hval
  obtain ⟨v0, d0, rfl, rfl, h0⟩ := trodAll_one hA
  have g0 := hval 0 _ v0 rfl rfl
  obtain ⟨⟨A, ca, l⟩, rfl, kA, -⟩ := (opn_acts W).one (one_slice Try.underlying65 g0) h0
  exact causal_walk l A ca W.heap kA
set_option maxRecDepth 100000 in
theorem logCausal_holds : Rows.LogCausalSaid :=
  OpenClaim.holds_of_wide 6 Try.f6 rfl rfl rfl rfl rfl rfl rfl ⟨rfl, rfl, rfl, rfl, rfl⟩ rfl rfl rfl rfl rfl (by kernel_rfl) Try.func6 (by kernel_rfl)
    (of_decide_eq_true (by kernel_rfl)) (by unfold Func.isWrapper; first | (rw [if_pos (by decide +kernel)]; kernel_rfl) | (rw [if_neg (by decide +kernel)]; exact ⟨rfl, rfl⟩))
    (fun os started H enc _ => logCausal_lifted os started H enc)
end Go.Proofs.Ytbanngdijmglbaa
