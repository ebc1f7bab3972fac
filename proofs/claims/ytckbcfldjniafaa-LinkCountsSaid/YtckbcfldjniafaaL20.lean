/- LinkCounts: every copy of every packet arrives exactly after its delay; nothing else arrives. Conditions: none beyond the statement's. -/
import Derived.Test.YtckbcfldjniafaaL19
namespace Go.Proofs.Ytckbcfldjniafaa
open Go.ChangeShapes Go.WideShapes Go.ChangeAt Go.RowKit Go.Deep

set_option maxRecDepth 100000 in
theorem addE_take' {now : Int} {d : List UInt8} {ds : List Int} {k a : Nat} (hk : k < ds.length) (ha : now + ds[k] = (a : Int)) {es : List (List (List UInt8))} : addE now d (ds.take (k + 1)) es = (addE now d (ds.take k) es).set a ((addE now d (ds.take k) es).getD a [] ++ [d]) := by
  rw [addE_take hk, ha]
  rfl
set_option maxRecDepth 100000 in
theorem zero_of {P : Program} {T : TypeId} {z : Value} (h : (P.info? T).map (fun i => i.zero) = some (some z)) (w : World) : (zeroValue T).run P w = .ok z w := by
  obtain ⟨i, hi, hz⟩ := Option.map_eq_some_iff.1 h
  simp [zeroValue, typeInfo, hi, hz]
set_option maxRecDepth 100000 in
theorem zero400 : (Try.prog.info? 51).map (fun i => i.zero) = some (some (.agg (List.replicate 400 (.slice none 0 0)).toArray)) := by kernel_rfl
set_option maxRecDepth 100000 in
theorem putAll_len' {now : Int} {d : List UInt8} (ds : List Int) {f : List Fl} {n : Nat} (h : f.length + ds.length ≤ n) : (putAll now d ds f).length ≤ n := Nat.le_trans (putAll_len ds) h
/-- What stands between two steps: the link, what is expected. -/
def CI (pat : List UInt8) (g5 g7 base : Nat) (now D : Int) (s f : Nat) (H : Heap) : Prop := ∃ (L : LH) (vs : List Value) (es : List (List (List UInt8))), Blk H g5 (lkC L) 30 ∧ LkM ([g5, g7] ++ rowsB vs) H L ∧ ValidL L.lk ∧ LkSm L ∧ L.pat = pat ∧ L.now = now ∧ L.sent ≤ s ∧ L.fly.length ≤ f ∧ (∀ x ∈ L.lk.fly, x.1 ≤ D) ∧ Blk H g7 vs 51 ∧ Exps H base vs es ∧ ExpOk now es L.lk.fly
set_option maxRecDepth 100000 in
theorem counts_walk (A B : Option Addr) (ca cb : Nat) (pat : List UInt8) (l : List StepH) (H : Heap) (hA : Rd eByte H A pat) (hB : Rd eStep H B l) (hdat : ∀ x ∈ l, Rd eByte H x.A x.data) (hp : pat.length ≤ 9223372036854775807) (hl : l.length ≤ 9223372036854775807) :
    CallsH Try.prog 5 [.slice A pat.length ca, .slice B l.length cb] H fun v H' => v = .bool true ∧ Ext H H' := by
  refine callsH_of Try.func5 rfl Try.ntmps5 (Nat.le_of_ble_eq_true rfl) ?_
  refine wpSeq fun F1 hF1 => ?_
  refine wpRegion ?_
  refine seqQ rfl rfl (yAssign (v := .bool _) rfl rfl) ?_
  refine seqNil ?_
  refine hF1 _ _ ?_; clear hF1
  refine wpSeq fun F2 hF2 => ?_
  refine wpSeq fun F3 hF3 => ?_
  refine wpRegion ?_
  -- e slot 20: call F9<farandole/farandolelaw45.awake> 
  refine seqE rfl rfl (stepCall rfl Try.call9 rfl ?_)
  refine (lkAwake_c _).mono ?_
  rintro v Ha ⟨rfl, xa⟩
  refine seqQ rfl rfl (yNot rfl rfl) ?_
  refine seqNil ?_
  refine hF3 _ _ ?_; clear hF3
  -- if t21
  refine wpF rfl ?_
  refine wpSkip ?_
  refine hF2 _ _ ?_; clear hF2
  refine wpSeq fun F4 hF4 => ?_
  refine wpSeq fun F5 hF5 => ?_
  refine wpRegion ?_
  refine seqQ rfl rfl (yMove (v := .slice _ _ _) rfl rfl) ?_
  refine seqQ rfl rfl (yLen rfl Try.underlying22 rfl) ?_
  refine seqQ rfl rfl (yGtr rfl rfl rfl) ?_
  first | refine seqG rfl rfl rfl rfl (fun h25 => ?_) (fun h25 => ?_) | refine seqGB rfl rfl rfl rfl (fun h25 => ?_) (fun h25 => ?_)
  · skip
    refine seqU rfl rfl ?_
    refine seqU rfl rfl ?_
    refine seqU rfl rfl ?_
    refine seqQ rfl rfl (yPickT (v := .bool _) rfl rfl rfl) ?_
    refine seqNil ?_
    refine hF5 _ _ ?_; clear hF5
    refine wpT rfl ?_
    refine wpSeq fun F6 hF6 => ?_
    refine wpRegion ?_
    refine seqQ rfl rfl (yAssign (v := .bool _) rfl rfl) ?_
    refine seqNil ?_
    refine hF6 _ _ ?_; clear hF6
    refine wpRet (fin1 (v := .bool _) rfl rfl ?_)
    exact ⟨rfl, xa⟩
  refine seqQ rfl rfl (yMove (v := .slice _ _ _) rfl rfl) ?_
  -- e slot 27: call F23<farandole/farandolelaw45.few> t26
  have hp : pat.length ≤ 50 := by omega
  refine seqE rfl rfl (stepCall rfl Try.call23 rfl ?_)
  refine (fewS_c B cb l Ha (hB.ext xa) hl).mono ?_
  rintro v _ ⟨rfl, e⟩; obtain rfl := e.symm; clear e
  refine seqQ rfl rfl (yNot rfl rfl) ?_
  refine seqQ rfl rfl (yPickF (v := .bool _) rfl rfl rfl) ?_
  refine seqNil ?_
  refine hF5 _ _ ?_; clear hF5
  -- if t29
  refine wpCond rfl (fun hfew => ?_) (fun hfew => ?_)
  · skip
    refine wpSeq fun F7 hF7 => ?_
    refine wpRegion ?_
    refine seqQ rfl rfl (yAssign (v := .bool _) rfl rfl) ?_
    refine seqNil ?_
    refine hF7 _ _ ?_; clear hF7
    -- ret
    refine wpRet (fin1 (v := .bool _) rfl rfl ?_)
    exact ⟨rfl, xa⟩
  · skip
    have hf : FewS l := by simpa using hfew
    obtain ⟨hf1, hf2⟩ := hf
    clear hfew
    refine wpSkip ?_
    refine hF4 _ _ ?_; clear hF4
    refine wpSeq fun F8 hF8 => ?_
    refine wpRegion ?_
    refine seqQ rfl rfl (yMove (v := .slice _ _ _) rfl rfl) ?_
    -- e slot 32: call F21<farandole/link.New> t31
    refine seqE rfl rfl (stepCall rfl Try.call21 rfl ?_)
    refine (new_c A ca pat Ha (hA.ext xa) (by omega)).mono ?_
    rintro v Hb ⟨L1, hv, e1, r1, xb⟩
    have en : newL pat = (0, ⟨pat, 0, 0, []⟩) := if_neg (by omega)
    rw [en] at hv e1
    subst hv
    refine seqQ rfl rfl (yMove (v := .tuple _) rfl rfl) ?_
    refine seqQ rfl rfl (yExtract (v := .agg _) rfl rfl rfl) ?_
    refine seqQ rfl rfl (yExtract (v := .int _ _) rfl rfl rfl) ?_
    refine seqN rfl rfl (nAlloc rfl Try.zeroValue30 rfl) (fun g5 H5 hx5 hB5 hg5 hl5 => ?_)
    -- e slot None: store T30 t5 t33
    refine seqE0 rfl rfl (stepStoreB rfl (by kernel_rfl) rfl rfl rfl hB5 rfl ?_)
    intro Hc h5 hKc
    have xbc : Ext Hb Hc := hx5.mine hKc (by simp; omega)
    have g5H : H.size ≤ g5 := by have := xa.size; have := xb.size; omega
    have hE : Ext H Hc := (xa.trans xb).trans xbc
    have gl5 := h5.lt
    have zb := xb.size
    clear hx5 hB5 hKc
    refine seqQ rfl rfl (yAssign (v := .int _ _) rfl rfl) ?_
    refine seqNil ?_
    refine hF8 _ _ ?_; clear hF8
    refine wpSeq fun F9 hF9 => ?_
    refine wpSeq fun F10 hF10 => ?_
    refine wpRegion ?_
    refine seqQ rfl rfl (yMove (v := .int _ _) rfl rfl) ?_
    refine seqQ rfl rfl (yNeq rfl rfl rfl) ?_
    refine seqNil ?_
    refine hF10 _ _ ?_; clear hF10
    -- if t36
    refine wpF rfl ?_
    refine wpSkip ?_
    refine hF9 _ _ ?_; clear hF9
    refine wpSeq fun F11 hF11 => ?_
    refine wpRegion ?_
    refine seqN rfl rfl (nAlloc rfl (zero_of zero400) rfl) (fun g7 H7 hx7 hB7 hg7 hl7 => ?_)
    refine seqNil ?_
    refine hF11 _ _ ?_; clear hF11
    refine wpSeq fun F12 hF12 => ?_
    refine wpRegion ?_
    refine seqQ rfl rfl (yAssign (v := .int _ _) rfl rfl) ?_
    refine seqNil ?_
    refine hF12 _ _ ?_; clear hF12
    refine wpSeq fun F13 hF13 => ?_
    refine wpSeq fun F14 hF14 => ?_
    refine wpRegion ?_
    refine seqQ rfl rfl (yAssign (v := .int _ _) rfl rfl) ?_
    refine seqNil ?_
    refine hF14 _ _ ?_; clear hF14
    -- loop
    have h7 : Blk H7 g7 (List.replicate 400 (.slice none 0 0)) 51 := hB7
    replace h5 := h5.ext hx7
    replace hE := hE.trans hx7
    have nr : rowsB (List.replicate 400 (.slice none 0 0)) = [] := by kernel_rfl
    have m1 : LkM ([g5, g7] ++ rowsB (List.replicate 400 (.slice none 0 0))) H7 L1 := by
      rw [nr, List.append_nil]
      exact r1.rd.m (xbc.trans hx7) (by have := xbc.size; simp; omega)
    clear hx7 hB7 r1 xa xb xbc
    have g75 : g5 < g7 := by omega
    have g7H : H.size ≤ g7 := by omega
    refine wpBlock ?_
    refine wpLoopS [4, 8, 9, 10, 11, 12, 13, 14, 15, 16, 17, 18, 19, 37, 38, 39, 40, 41, 42, 43, 44, 45, 46, 47, 48, 49, 50, 51, 52, 53, 54, 55, 56, 57, 58, 59, 60, 61, 62, 63, 64, 65, 66, 67, 68, 69, 70, 71, 72, 73, 74, 75, 76, 77, 78, 79, 80, 81, 82, 83, 84, 85, 86, 87, 88, 89, 90, 91, 92, 93, 94, 95, 96, 97, 98, 99, 100, 101, 102, 103, 104, 105, 106, 107, 108, 109, 110, 111, 112, 113, 114, 115, 116, 117, 118, 119, 120, 121, 122, 123, 124, 125, 126, 127, 128, 129, 130] (fun x : Nat × Int => [(9, .int .i64 x.1), (8, .int .i64 x.2)]) (fun x H' => x.1 ≤ l.length + 1 ∧ Ext H H' ∧ H7.size ≤ H'.size ∧ 0 ≤ x.2 ∧ (x.1 ≤ l.length → x.2 ≤ 3 * x.1) ∧ CI pat g5 g7 H7.size x.2 (x.2 + 8) x.1 (if x.1 = l.length + 1 then 0 else 2 * x.1) H') (fun x => l.length + 1 - x.1) (0, 0) ⟨rfl, rfl, trivial⟩ ⟨Nat.zero_le _, hE, Nat.le_refl _, by dsimp only; omega, fun _ => by dsimp only; omega, L1, _, _, h5, m1, ?_, ?_, ?_, ?_, ?_, ?_, ?_, h7, exps_nil _ _, ?_⟩ ?_
    · rw [e1]
      exact ValidL.of (by show pat.length ≤ _; omega) (by simp) (by simp) ⟨by simp, List.Pairwise.nil, fun x hx => (by cases hx)⟩
    · exact sm_of e1 (by show pat.length ≤ _; omega) (by simp) (fun x hx => (by cases hx))
    · exact congrArg Lk.pat e1
    · exact congrArg Lk.now e1
    · have := congrArg Lk.sent e1
      show L1.lk.sent ≤ _
      rw [this]
      simp
    · rw [← fly_len, e1]
      simp
    · rw [e1]
      intro x hx
      cases hx
    · rw [e1]
      intro t ht ht4
      rw [List.getD_eq_getElem?_getD, List.getElem?_replicate, if_pos ht4]
      rfl
    clear hE h5 h7 m1 e1 nr
    rintro ⟨i, now⟩ J Hi ⟨hi, hE, z7, n0, n3, ci⟩
    dsimp only at hi n0 n3 ci
    have g7l : g7 < H7.size := hl7
    refine wpSeq fun F15 hF15 => ?_
    refine wpSeq fun F16 hF16 => ?_
    refine wpRegion ?_
    refine seqQ rfl rfl (yMove (v := .int _ _) rfl rfl) ?_
    refine seqQ rfl rfl (yMove (v := .slice _ _ _) rfl rfl) ?_
    refine seqQ rfl rfl (yLen rfl Try.underlying49 rfl) ?_
    refine seqQ rfl rfl (yLeq rfl rfl rfl) ?_
    refine seqNil ?_
    refine hF16 _ _ ?_; clear hF16
    -- if t40
    refine wpIf rfl (fun hile => ?_) (fun hile => ?_)
    · skip
      have hi : i ≤ l.length := by dsimp only at hile; omega
      replace n3 := n3 hi
      rw [if_neg (by omega)] at ci
      refine wpSkip ?_
      refine hF15 _ _ ?_; clear hF15
      refine wpSeq fun F17 hF17 => ?_
      refine wpBlock ?_
      refine wpSeq fun F18 hF18 => ?_
      refine wpRegion ?_
      refine seqQ rfl rfl (yAssign (v := .int _ _) rfl rfl) ?_
      refine seqNil ?_
      refine hF18 _ _ ?_; clear hF18
      refine wpSeq fun F19 hF19 => ?_
      refine wpSeq fun F20 hF20 => ?_
      refine wpRegion ?_
      refine seqQ rfl rfl (yMove (v := .int _ _) rfl rfl) ?_
      refine seqQ rfl rfl (yMove (v := .slice _ _ _) rfl rfl) ?_
      refine seqQ rfl rfl (yLen rfl Try.underlying49 rfl) ?_
      refine seqQ rfl rfl (yLss rfl rfl rfl) ?_
      refine seqNil ?_
      refine hF20 _ _ ?_; clear hF20
      -- if t46
      refine cutF [4, 10, 11, 12, 13, 14, 15, 16, 47, 48, 49, 50, 51, 52, 53, 54, 55, 56, 57, 58, 59, 60, 61, 62, 63, 64, 65, 66, 67, 68, 69, 70, 71, 72, 73, 74, 75, 76, 77, 78, 79, 80, 81, 82, 83, 84, 85, 86, 87, 88, 89, 90, 91, 92, 93, 94, 95, 96, 97, 98, 99, 100, 101, 102, 103, 104, 105] (fun z : Nat => [(10, .int .i64 z)]) (fun z H' => Ext H H' ∧ H7.size ≤ H'.size ∧ z ≤ 8 ∧ (i < l.length → z ≤ 3) ∧ (i = l.length → z = 8) ∧ CI pat g5 g7 H7.size now (now + 8) (i + 1) (2 * i + 2) H') hF19 ?_ (fun hC => ?_)
      · skip
        clear hE z7 ci
        rintro ticks J2 H0 ⟨hE, z7, t8, t3, tl, ci⟩
        refine wpSeq fun F21 hF21 => ?_
        refine wpRegion ?_
        refine seqQ rfl rfl (yAssign (v := .int _ _) rfl rfl) ?_
        refine seqNil ?_
        refine hF21 _ _ ?_; clear hF21
        -- loop
        refine wpBlock ?_
        refine wpLoopS [4, 8, 17, 18, 19, 106, 107, 108, 109, 110, 111, 112, 113, 114, 115, 116, 117, 118, 119, 120, 121, 122, 123, 124, 125, 126, 127, 128, 129, 130] (fun k : Nat => [(17, .int .i64 k), (8, .int .i64 (now + k))]) (fun k H' => k ≤ ticks ∧ Ext H H' ∧ H7.size ≤ H'.size ∧ CI pat g5 g7 H7.size (now + k) (now + 8) (i + 1) (2 * i + 2) H') (fun k => ticks - k) 0 ⟨rfl, by show Value.int _ _ = Value.int _ _; congr 1; omega, trivial⟩ ⟨Nat.zero_le _, hE, z7, by simpa using ci⟩ ?_
        clear hE z7 ci
        rintro k J3 Hk ⟨hk, hE, z7, L, vs, es, h5, hm, hv, sm, epat, enow, hsent, hfl, hD, h7, hx, hok⟩
        refine wpSeq fun F22 hF22 => ?_
        refine wpSeq fun F23 hF23 => ?_
        refine wpRegion ?_
        refine seqQ rfl rfl (yMove (v := .int _ _) rfl rfl) ?_
        refine seqQ rfl rfl (yMove (v := .int _ _) rfl rfl) ?_
        refine seqQ rfl rfl (yLss rfl rfl rfl) ?_
        refine seqNil ?_
        refine hF23 _ _ ?_; clear hF23
        -- if t108
        refine wpIf rfl (fun hkt => ?_) (fun hkt => ?_)
        · skip
          have hk : k < ticks := by omega
          refine wpSkip ?_
          refine hF22 _ _ ?_; clear hF22
          refine wpSeq fun F24 hF24 => ?_
          refine wpBlock ?_
          refine wpSeq fun F25 hF25 => ?_
          refine wpRegion ?_
          refine seqQ rfl rfl (yLoadB h5 rfl Try.underlying30 rfl Try.sizeOf30 rfl) ?_
          -- e slot 113: call F11<farandole/link.Tick> t112
          refine seqE rfl rfl (stepCall rfl Try.call11 rfl ?_)
          refine (tick_c L Hk hm.rd sm).mono ?_
          rintro v Hj ⟨L', VA, vc, bs, rfl, ea, eb, ra, px, xj⟩
          have enl : L.lk.now = now + k := enow
          have hnb : ¬ (¬ ValidL L.lk ∨ L.lk.now = 1099511627776) := by
            intro h
            rcases h with h | h
            · exact h hv
            · omega
          have hvt := valid_tick hv
          have sm' := LkRd.sm_tick sm ea
          rw [tickL_ok hnb] at ea eb hvt
          have hg := hv.good
          rw [enl] at hg
          obtain ⟨k1, k2⟩ := expOk_tick (by omega) hg hok
          have hlt5 := h5.lt
          have hMlt : ∀ b ∈ [g5, g7] ++ rowsB vs, b < Hk.size := fun b hb => by
            rcases List.mem_append.1 hb with hb | hb
            · rcases (show b = g5 ∨ b = g7 by simpa using hb) with rfl | rfl
              · exact h5.lt
              · exact h7.lt
            · exact (hx.lt b hb).2
          have hmL : LkM ([g5, g7] ++ rowsB vs) Hj L' := ra.m hMlt
          refine seqQ rfl rfl (yMove (v := .tuple _) rfl rfl) ?_
          refine seqQ rfl rfl (yExtract (v := .agg _) rfl rfl rfl) ?_
          refine seqQ rfl rfl (yExtract (v := .slice _ _ _) rfl rfl rfl) ?_
          refine seqN rfl rfl (nAlloc rfl Try.zeroValue30 rfl) (fun g18 H18 hx18 hB18 hg18 hl18 => ?_)
          -- e slot None: store T30 t18 t114
          refine seqE0 rfl rfl (stepStoreB rfl (by kernel_rfl) rfl rfl rfl hB18 rfl ?_)
          intro Hl h18 hKl
          have xl : Ext Hj Hl := hx18.mine hKl (by simp; omega)
          have xjl := xj.trans xl
          replace h5 := h5.ext xjl
          replace h7 := h7.ext xjl
          replace hx := hx.ext xjl
          replace hE := hE.trans xjl
          replace hmL := hmL.tr (Tr.of_ext xl _)
          replace px := px.ext xl
          have zjl := xjl.size
          have gl18 := h18.lt
          clear hB18 hx18 hKl xl xj ra hm xjl
          have enow' : L'.now = now + k + 1 := (congrArg Lk.now ea).trans (by show L.lk.now + 1 = _; rw [enl])
          have hat : (now + k + 1).toNat < vs.length := by rw [hx.n1]; omega
          obtain ⟨v, hvr⟩ : ∃ v, vs[(now + k + 1).toNat]? = some v := ⟨_, List.getElem?_eq_getElem hat⟩
          obtain ⟨bs', ob, hbd, hbr⟩ := hx.row _ _ hvr
          obtain ⟨RA, rc, rfl, -⟩ := ob.form
          have hbl : bs.length ≤ 100000 := by
            have h0 := congrArg List.length eb
            rw [List.length_map, List.length_map] at h0
            have h1 := (List.takeWhile_sublist (fun f : Fl => decide (f.1 = L.lk.now + 1)) (l := L.lk.fly)).length_le
            have h2 := hv.good.len
            omega
          refine seqQ rfl rfl (yAssign (v := .slice _ _ _) rfl rfl) ?_
          refine seqNil ?_
          refine hF25 _ _ ?_; clear hF25
          refine wpSeq fun F26 hF26 => ?_
          refine wpRegion ?_
          refine seqQ rfl rfl (yMove (v := .int _ _) rfl rfl) ?_
          refine seqQ rfl rfl (yAdd rfl rfl rfl (by unfold In64; omega)) ?_
          refine seqQ rfl rfl (yAssign (v := .int _ _) rfl rfl) ?_
          refine seqNil ?_
          refine hF26 _ _ ?_; clear hF26
          refine wpSeq fun F27 hF27 => ?_
          refine wpSeq fun F28 hF28 => ?_
          refine wpRegion ?_
          refine seqQ rfl rfl (yFieldAddr rfl Try.underlying30 rfl Try.sizeOf3 rfl rfl) ?_
          refine seqQ rfl rfl (yLoad rfl Try.underlying3 rfl rfl (h18.cell rfl)) ?_
          refine seqQ rfl rfl (yMove (v := .int _ _) rfl rfl) ?_
          refine seqQ rfl rfl (yNeq rfl rfl rfl) ?_
          -- guard t122
          rw [decide_eq_true enow']
          refine seqQ rfl rfl (yMove (v := .bool false) rfl rfl) ?_
          refine seqQ rfl rfl (yMove (v := .slice _ _ _) rfl rfl) ?_
          refine seqQ rfl rfl (yMove (v := .int _ _) rfl rfl) ?_
          refine seqQ rfl rfl (yIdxA1 rfl Try.underlying51 Try.sizeOf31 rfl rfl (show now + (k : Int) + 1 = (((now + k + 1).toNat : Nat) : Int) by omega) (show (now + k + 1).toNat < 400 by omega)) ?_
          refine seqQ rfl rfl (yLoad rfl Try.underlying31 rfl rfl (h7.cell hvr)) ?_
          -- e slot 127: call F18<farandole/farandolelaw45.sameAll> t123 t126
          refine seqE rfl rfl (stepCall rfl Try.call18 rfl ?_)
          have hc := sameAll_c VA RA vc rc bs bs' Hl px.rd (Own.rd ob).2 px.data (fun z hz => (hbr z hz).1.rd) hbl
          rw [decide_eq_true (show bs.map BH.data = bs'.map BH.data by rw [eb, hbd, ← k1, enl])] at hc
          refine hc.mono ?_
          rintro v _ ⟨rfl, e⟩; obtain rfl := e.symm; clear e hc
          refine seqQ rfl rfl (yNot rfl rfl) ?_
          refine seqQ rfl rfl (yPickF (v := .bool _) rfl rfl rfl) ?_
          refine seqNil ?_
          refine hF28 _ _ ?_; clear hF28
          -- if t129
          refine wpF rfl ?_
          refine wpSkip ?_
          refine hF27 _ _ ?_; clear hF27
          refine wpRegion ?_
          refine seqQ rfl rfl (yLoadB h18 rfl Try.underlying30 rfl Try.sizeOf30 rfl) ?_
          -- e slot None: store T30 t5 t130
          refine seqE0 rfl rfl (stepStoreB rfl (by kernel_rfl) rfl rfl rfl h5 rfl ?_)
          intro Hm h5' hKm
          have e7 : g7 ≠ g5 := by omega
          refine seqNil ?_
          refine hF24 _ _ ?_; clear hF24
          refine wpRegion ?_
          refine seqQ rfl rfl (yMove (v := .int _ _) rfl rfl) ?_
          refine seqQ rfl rfl (yAdd rfl rfl rfl (by unfold In64; omega)) ?_
          refine seqQ rfl rfl (yAssign (v := .int _ _) rfl rfl) ?_
          refine seqNil ?_
          -- end loop
          refine loopEnd (k + 1) (by repeat (first | (with_reducible exact Agree.refl _ _) | refine Agree.upd ?_ rfl | refine Agree.over ?_ rfl)) (by omega) ⟨rfl, ?_, trivial⟩ ⟨hk, hE.mine hKm (by simp; omega), by have := hKm.size; omega, L', vs, es, h5', hmL.tr (Tr.store hKm (by simp)), ?_, sm', ?_, ?_, ?_, ?_, ?_, h7.keep hKm (by simpa using e7), hx.keep hKm (by simp; omega), ?_⟩
          · show Value.int _ _ = Value.int _ _
            congr 1
            omega
          · rw [ea]
            exact hvt
          · have := congrArg Lk.pat ea
            exact this.trans epat
          · rw [enow']
            omega
          · have : L'.sent = L.sent := congrArg Lk.sent ea
            rw [this]
            exact hsent
          · rw [← fly_len, ea]
            have h1 := (List.dropWhile_sublist (fun f : Fl => decide (f.1 = L.lk.now + 1)) (l := L.lk.fly)).length_le
            rw [fly_len] at h1
            show (L.lk.fly.dropWhile _).length ≤ _
            omega
          · rw [ea]
            intro x hx
            exact hD x ((List.dropWhile_sublist _).subset hx)
          · rw [ea, enl]
            have e3 : now + ((k + 1 : Nat) : Int) = now + k + 1 := by omega
            rw [e3]
            exact k2
        · skip
          obtain rfl : k = ticks := by omega
          refine wpExit ?_
          refine hF17 _ _ ?_; clear hF17
          refine wpRegion ?_
          refine seqQ rfl rfl (yMove (v := .int _ _) rfl rfl) ?_
          refine seqQ rfl rfl (yAdd rfl rfl rfl (by unfold In64; omega)) ?_
          refine seqQ rfl rfl (yAssign (v := .int _ _) rfl rfl) ?_
          refine seqNil ?_
          -- end loop
          refine loopEnd (i + 1, now + k) (by repeat (first | (with_reducible exact Agree.refl _ _) | refine Agree.upd ?_ rfl | refine Agree.over ?_ rfl)) (by dsimp only; omega) ⟨rfl, rfl, trivial⟩ ⟨by dsimp only; omega, hE, z7, by dsimp only; omega, fun h => by have := t3 (by dsimp only at h; omega); dsimp only; omega, L, vs, es, h5, hm, hv, sm, epat, enow, by dsimp only; omega, ?_, ?_, h7, hx, hok⟩
          · dsimp only
            by_cases hil : i = l.length
            · rw [if_pos (by omega)]
              have h8 := tl hil
              rw [← fly_len]
              have : L.lk.fly = [] := by
                cases hfe : L.lk.fly with
                | nil => rfl
                | cons x r =>
                  have h1 := hD x (by rw [hfe]; simp)
                  have h2 := (hv.good.rng x (by rw [hfe]; simp)).1
                  have h3 : L.lk.now = now + k := enow
                  omega
              rw [this]
              exact Nat.le_refl _
            · rw [if_neg (by omega)]
              omega
          · intro x hx
            have h2 := (hv.good.rng x hx).2.1
            have h3 : L.lk.now = now + k := enow
            dsimp only
            omega
      · skip
        refine wpIf rfl (fun hil => ?_) (fun hil => ?_)
        · skip
          have hil : i < l.length := by dsimp only at hil; omega
          obtain ⟨p, ep, hpp⟩ := (hB.ext hE).at hil
          have h8 := l[i].ticks.toNat_lt
          refine wpSeq fun F29 hF29 => ?_
          refine wpRegion ?_
          refine seqQ rfl rfl (yMove (v := .slice _ _ _) rfl rfl) ?_
          refine seqQ rfl rfl (yMove (v := .int _ _) rfl rfl) ?_
          refine seqQ rfl rfl (yIdxP rfl Try.underlying49 Try.sizeOf53 rfl rfl ep rfl hil) ?_
          refine seqQ rfl rfl (yFieldAddr rfl Try.underlying53 rfl Try.sizeOf5 rfl rfl) ?_
          refine seqQ rfl rfl (yLoad rfl Try.underlying5 rfl rfl (hpp 2 _ rfl)) ?_
          refine seqQ rfl rfl (yConv rfl Try.underlying5 Try.underlying3 rfl (IntWalk.i64_in _ (by omega))) ?_
          refine seqQ rfl rfl (yRem rfl rfl rfl (by omega)) ?_
          refine seqQ rfl rfl (yAssign (v := .int _ _) rfl rfl) ?_
          refine seqNil ?_
          refine hF29 _ _ ?_; clear hF29
          refine wpSeq fun F30 hF30 => ?_
          refine wpRegion ?_
          refine seqQ rfl rfl (yMove (v := .slice _ _ _) rfl rfl) ?_
          refine seqQ rfl rfl (yMove (v := .int _ _) rfl rfl) ?_
          refine seqQ rfl rfl (yIdxP rfl Try.underlying49 Try.sizeOf53 rfl rfl ep rfl hil) ?_
          refine seqQ rfl rfl (yFieldAddr rfl Try.underlying53 rfl Try.sizeOf4 rfl rfl) ?_
          refine seqQ rfl rfl (yLoad rfl Try.underlying4 rfl rfl (hpp 0 _ rfl)) ?_
          refine seqQ rfl rfl (yNot rfl rfl) ?_
          refine seqNil ?_
          refine hF30 _ _ ?_; clear hF30
          -- if t59
          refine wpCond rfl (fun hidle => ?_) (fun hidle => ?_)
          · skip
            obtain ⟨L, vs, es, h5, hm, hv, sm, epat, enow, hsent, hfl, hD, h7, hx, hok⟩ := ci
            have hd60 := hf1 i hil
            have hvs := hv.2.2.1
            have hpb : p.block < H.size := by
              obtain ⟨q, eq, hq⟩ := hB.lt (by omega)
              rw [ep] at eq
              obtain rfl := Option.some.inj eq
              exact hq
            refine wpSeq fun F31 hF31 => ?_
            refine wpRegion ?_
            refine seqQ rfl rfl (yMove (v := .slice _ _ _) rfl rfl) ?_
            refine seqQ rfl rfl (yFieldAddr rfl Try.underlying30 rfl Try.sizeOf3 rfl rfl) ?_
            refine seqQ rfl rfl (yLoad rfl Try.underlying3 rfl rfl (h5.cell rfl)) ?_
            refine seqQ rfl rfl (yBuild (pl := [(0, 1), (1, 1), (2, 1), (3, 1)]) (vs := [(0, .slice _ _ _), (2, .int _ _)]) rfl Try.underlying25 Try.zeroValue25 rfl (by unfold Places; kernel_rfl) rfl rfl) ?_
            -- e slot 64: call F24<farandole/farandoleref45.Fate> t63
            refine seqE rfl rfl (stepCall rfl Try.call24 rfl ?_)
            have hF := rFate_c ⟨A, ca, pat, 0, L.sent, none, 0, []⟩ Hi ⟨hA.ext hE, Rd.nil _ _, (fun x hx => by cases hx), Nat.le_refl _⟩ hvs.1 (by show pat.length ≤ _; omega)
            have efate : fate (LH.lk ⟨A, ca, pat, 0, L.sent, none, 0, []⟩) = fate L.lk := by
              show (if pat.length = 0 then 0 else pat.getD (L.sent.toNat % pat.length) 0) = (if L.pat.length = 0 then 0 else L.pat.getD (L.sent.toNat % L.pat.length) 0)
              rw [epat]
            obtain ⟨pf, hpf⟩ : ∃ p, p = fate L.lk := ⟨_, rfl⟩
            rw [efate, ← hpf] at hF
            refine hF.mono ?_
            rintro v H1 ⟨rfl, x1⟩
            clear hF efate
            refine seqQ rfl rfl (yAssign (v := .int _ _) rfl rfl) ?_
            refine seqNil ?_
            refine hF31 _ _ ?_; clear hF31
            refine wpSeq fun F32 hF32 => ?_
            refine wpRegion ?_
            refine seqQ rfl rfl (yMove (v := .int _ _) rfl rfl) ?_
            -- e slot 66: call F15<farandole/farandoleref45.Delays> t65
            refine seqE rfl rfl (stepCall rfl Try.call15 rfl ?_)
            refine (rDelays_c pf H1).mono ?_
            rintro v H2 ⟨oD, x2⟩
            obtain ⟨DA, dc, rfl, -⟩ := oD.form
            have hlt5 := h5.lt
            have hMlt : ∀ b ∈ [g5, g7] ++ rowsB vs, b < H1.size := fun b hb => by
              have := x1.size
              rcases List.mem_append.1 hb with hb | hb
              · rcases (show b = g5 ∨ b = g7 by simpa using hb) with rfl | rfl
                · have := h5.lt
                  omega
                · have := h7.lt
                  omega
              · have := (hx.lt b hb).2
                omega
            have rD := oD.rdM hMlt
            have x12 := x1.trans x2
            have z12 := x12.size
            replace h5 := h5.ext x12
            replace h7 := h7.ext x12
            replace hx := hx.ext x12
            replace hE := hE.trans x12
            replace hm := hm.tr (Tr.of_ext x12 _)
            have hdl := delays_len pf
            have harr : (arr pf l[i].data).length ≤ 1000 := by rw [arr_len]; omega
            have hokk : ∀ k, k ≤ (delays pf).length → ExpOk now (addE now (arr pf l[i].data) ((delays pf).take k) es) (putAll now (arr pf l[i].data) ((delays pf).take k) L.lk.fly) := fun k hk => by
              have hg := hv.good
              have e3 : L.lk.now = now := enow
              rw [e3] at hg
              exact expOk_put (by omega) harr _ hx.n2 hg (by rw [List.length_take, fly_len]; omega) (fun t ht => delays_rng (List.mem_of_mem_take ht)) hok
            clear x1 x2 x12 oD hMlt hpp
            refine seqQ rfl rfl (yAssign (v := .slice _ _ _) rfl rfl) ?_
            refine seqNil ?_
            refine hF32 _ _ ?_; clear hF32
            refine wpSeq fun F33 hF33 => ?_
            refine wpSeq fun F34 hF34 => ?_
            refine wpRegion ?_
            refine seqQ rfl rfl (yAssign (v := .int _ _) rfl rfl) ?_
            refine seqNil ?_
            refine hF34 _ _ ?_; clear hF34
            -- loop
            refine wpBlock ?_
            refine wpLoopS [13, 14, 67, 68, 69, 70, 71, 72, 73, 74, 75, 76, 77, 78, 79, 80, 81, 82, 83, 84, 85, 86, 87, 88, 89, 90, 91, 92] (fun k : Nat => [(13, .int .i64 k)]) (fun k H' => k ≤ (delays pf).length ∧ Ext H H' ∧ H7.size ≤ H'.size ∧ ∃ vs : List Value, Blk H' g5 (lkC L) 30 ∧ LkM ([g5, g7] ++ rowsB vs) H' L ∧ RdM eInt ([g5, g7] ++ rowsB vs) H' DA (delays pf) ∧ Blk H' g7 vs 51 ∧ Exps H' H7.size vs (addE now (arr pf l[i].data) ((delays pf).take k) es)) (fun k => (delays pf).length - k) 0 ⟨rfl, trivial⟩ ⟨Nat.zero_le _, hE, by omega, vs, h5, hm, rD, h7, hx⟩ ?_
            clear hE z7 h5 hm rD h7 hx vs z12 hlt5
            rintro k J2 Hk ⟨hk, hE, z7, vs, h5, hm, rD, h7, hx⟩
            obtain ⟨p, ep, hpp⟩ := (hB.ext hE).at hil
            refine wpSeq fun F35 hF35 => ?_
            refine wpSeq fun F36 hF36 => ?_
            refine wpRegion ?_
            refine seqQ rfl rfl (yMove (v := .int _ _) rfl rfl) ?_
            refine seqQ rfl rfl (yMove (v := .slice _ _ _) rfl rfl) ?_
            refine seqQ rfl rfl (yLen rfl Try.underlying37 rfl) ?_
            refine seqQ rfl rfl (yLss rfl rfl rfl) ?_
            refine seqNil ?_
            refine hF36 _ _ ?_; clear hF36
            -- if t70
            refine wpIf rfl (fun hkl => ?_) (fun hkl => ?_)
            · skip
              have hk : k < (delays pf).length := by omega
              have hdr := delays_rng (List.getElem_mem hk)
              obtain ⟨q, eq, hq⟩ := rD.rd.at1 hk
              obtain ⟨at_, eat⟩ : ∃ a : Nat, now + (delays pf)[k] = (a : Int) := ⟨(now + (delays pf)[k]).toNat, by omega⟩
              have hat : at_ < 400 := by omega
              obtain ⟨v, hvr⟩ : ∃ v, vs[at_]? = some v := ⟨_, List.getElem?_eq_getElem (by rw [hx.n1]; exact hat)⟩
              obtain ⟨bs, ob, hbd, hbr⟩ := hx.row _ _ hvr
              obtain ⟨RA, rc, rfl, -⟩ := ob.form
              have hbl : bs.length ≤ 62 := by
                have h1 := congrArg List.length hbd
                rw [List.length_map, hokk k (by omega) at_ (by omega) hat] at h1
                have h2 := due_len (putAll now (arr pf l[i].data) ((delays pf).take k) L.lk.fly) at_
                have h3 := putAll_len (now := now) (d := arr pf l[i].data) ((delays pf).take k) (f := L.lk.fly)
                rw [List.length_take, fly_len] at h3
                omega
              have hMb : ∀ b ∈ (Value.slice RA bs.length rc).ownBlock.toList, H7.size ≤ b ∧ b < Hk.size := fun b hb => by rw [Option.mem_toList] at hb; exact ob.lt b hb
              have zE := hE.size
              have hpb : p.block < H.size := by
                obtain ⟨q, eq, hq⟩ := hB.lt (by omega)
                rw [ep] at eq
                obtain rfl := Option.some.inj eq
                exact hq
              refine wpSkip ?_
              refine hF35 _ _ ?_; clear hF35
              refine wpSeq fun F37 hF37 => ?_
              refine wpBlock ?_
              refine wpSeq fun F38 hF38 => ?_
              refine wpRegion ?_
              refine seqQ rfl rfl (yMove (v := .int _ _) rfl rfl) ?_
              refine seqQ rfl rfl (yMove (v := .slice _ _ _) rfl rfl) ?_
              refine seqQ rfl rfl (yMove (v := .int _ _) rfl rfl) ?_
              refine seqQ rfl rfl (yIdxP1 rfl Try.underlying37 Try.sizeOf3 rfl rfl eq rfl hk) ?_
              refine seqQ rfl rfl (yLoad rfl Try.underlying3 rfl rfl hq) ?_
              refine seqQ rfl rfl (yAdd rfl rfl rfl (by unfold In64; omega)) ?_
              refine seqQ rfl rfl (yAssign (v := .int _ _) rfl rfl) ?_
              refine seqNil ?_
              refine hF38 _ _ ?_; clear hF38
              refine wpRegionD Try_mixed [.q, .q, .q, .q, .q, .q, .q, .q, .q, .q, .e, .n, .e, .q, .e] 13 [0, 0, 2, 6, 0, 0, 0, 96, 224, 480, 1008, 2032, 4094, 8191, 16383] (Value.slice RA bs.length rc).ownBlock.toList (by kernel_rfl) _ rfl [0, 1, 2, 3, 4, 5, 6, 7, 8, 9, 10, 11, 12] rfl (fun b hb => (hMb b hb).2) ?_
              refine lexQ rfl rfl rfl rfl (fun H hM => (yMove (v := .int _ _) rfl rfl)) ?_
              refine lexQ rfl rfl rfl rfl (fun H hM => (yMove (v := .int _ _) rfl rfl)) ?_
              refine lexQ rfl rfl rfl rfl (fun H hM => (yIdxA1 rfl Try.underlying51 Try.sizeOf31 rfl rfl eat hat)) ?_
              refine lexQ rfl rfl rfl rfl (fun H hM => (yLoad rfl Try.underlying31 rfl rfl (hM.cell (h7.cell hvr) (fun hm => by have := (hMb _ hm).1; rw [block_of_add] at this; have : H7.size ≤ g7 := this; omega)))) ?_
              refine lexQ rfl rfl rfl rfl (fun H hM => (yMove (v := .int _ _) rfl rfl)) ?_
              refine lexQ rfl rfl rfl rfl (fun H hM => (yMove (v := .slice _ _ _) rfl rfl)) ?_
              refine lexQ rfl rfl rfl rfl (fun H hM => (yMove (v := .int _ _) rfl rfl)) ?_
              refine lexQ rfl rfl rfl rfl (fun H hM => (yIdxP rfl Try.underlying49 Try.sizeOf53 rfl rfl ep rfl hil)) ?_
              refine lexQ rfl rfl rfl rfl (fun H hM => (yFieldAddr rfl Try.underlying53 rfl Try.sizeOf22 rfl rfl)) ?_
              refine lexQ rfl rfl rfl rfl (fun H hM => (yLoad rfl Try.underlying22 rfl rfl (hM.cell (hpp 1 _ rfl) (fun hm => by have := (hMb _ hm).1; simp only [block_of_add] at this; omega)))) ?_
              -- e slot 89: call F25<farandole/farandoleref45.Copy> t83 t88
              have rd := (hdat _ (List.getElem_mem hil)).ext hE
              have hMk : ∀ b ∈ [g5, g7] ++ rowsB vs, b < Hk.size := fun b hb => by
                rcases List.mem_append.1 hb with hb | hb
                · rcases (show b = g5 ∨ b = g7 by simpa using hb) with rfl | rfl
                  · exact h5.lt
                  · exact h7.lt
                · exact (hx.lt b hb).2
              refine lexE rfl rfl rfl rfl (fun H89 hX89 hM89 hN89 => stepCall rfl Try.call25 rfl ?_)
              refine (rCopy_c l[i].A l[i].cap l[i].data pf H89 (rd.ext hX89) (by omega)).mono ?_
              rintro v K3 ⟨oC, k3⟩
              obtain ⟨CA, cc, rfl, -⟩ := oC.form
              have z89 := hX89.size
              have zk3 := k3.size
              refine lexFr (F := (Value.slice CA (arr pf l[i].data).length cc).ownBlock.toList) k3 (fun b hb => by rw [Option.mem_toList] at hb; exact oC.lt b hb) (fun b hb => Nat.lt_of_lt_of_le (hMb b hb).2 z89) ?_
              refine lexNB rfl rfl rfl rfl (nBuildSlice (vs := [.slice _ _ _]) rfl Try.underlying31 Try.sizeOf22 Try.zeroValue22 rfl rfl rfl rfl) (fun g90 hg90 hne90 => ?_)
              -- e slot 91: builtin append t82 t90 : [31, 31]
              refine lexE rfl rfl rfl rfl (fun H91 hX91 hM91 hN91 => stepApp (c := eBH) (((ob.ext hX89).ext k3).ext hX91) rfl Try.underlying31 elem_eBH rfl (by omega) rfl rfl rfl (Blk.rd (c := eBH) (l := [⟨CA, cc, arr pf l[i].data⟩]) (Made.blk hN91 (.head _) rfl)) (by rw [List.length_singleton]; omega) (by have := hX91.size; omega) ?_)
              intro v1 H6 o6 gr1
              refine lexGrew gr1 (fun g e => List.mem_append.2 (.inr (by rw [Option.mem_toList]; exact e))) (fun b hb => ?_) (fun g e => (o6.lt g e).2) ?_
              · have z91 := hX91.size
                rcases List.mem_append.1 hb with hb | hb
                · rw [Option.mem_toList] at hb
                  have := (oC.lt b hb).2
                  omega
                · have := (hMb b hb).2
                  omega
              obtain ⟨V1, c1, rfl, -⟩ := o6.form
              -- tail
              refine lexNil (fun Hf hXf hMf hNf => ?_)
              have x6 := (hX89.trans k3).trans hX91
              have hvl := hx.n1
              have hx6 := (hx.ext x6).app hvr hbd (fun y hy => ⟨(hbr y hy).1.tr (Tr.of_ext x6 _), (hbr y hy).2⟩) ⟨CA, cc, arr pf l[i].data⟩ ((oC.rdM (fun b hb => by have := (hx.lt b hb).2; omega)).tr (Tr.of_ext hX91 _)) (fun p e => by have := (oC.lt p.block (by rw [show CA = some p from e]; rfl)).1; omega) gr1 o6
              have tr := ((Tr.of_ext x6 ([g5, g7] ++ rowsB vs)).trans (rows_tr [g5, g7] hvr gr1)).trans (Tr.of_ext hXf _)
              have g75' : g7 < H7.size := g7l
              have k5 : Blk Hf g5 (lkC L) 30 := ((h5.ext x6).keep gr1.1 (fun hm => by have := (hMb _ hm).1; omega)).ext hXf
              have k7 : Blk Hf g7 vs 51 := ((h7.ext x6).keep gr1.1 (fun hm => by have := (hMb _ hm).1; omega)).ext hXf
              have hm6 := hm.tr tr
              have rD6 := rD.tr tr
              have hx7 := hx6.ext hXf
              have hEf : Ext H Hf := ((hE.trans x6).mine gr1.1 (fun b hb => by have := (hMb b hb).1; omega)).trans hXf
              have zf : Hk.size ≤ Hf.size := Nat.le_trans x6.size (Nat.le_trans gr1.1.size hXf.size)
              rw [← addE_take' hk eat] at hx7
              clear hx6 tr hm rD h5 h7 hx hE x6 gr1 o6 oC k3 hX89 hX91 hXf ob hbr hM89 hN89 hM91 hN91 hMf hNf
              refine seqQ rfl rfl (yIdxA1 rfl Try.underlying51 Try.sizeOf31 rfl rfl eat hat) ?_
              -- e slot None: store T31 t92 t91
              refine seqE0 rfl rfl (stepStore rfl Try.sizeOf31 rfl rfl rfl rfl k7 (by omega) ?_)
              intro Hg kg hKg
              refine seqNil ?_
              refine hF37 _ _ ?_; clear hF37
              refine wpRegion ?_
              refine seqQ rfl rfl (yMove (v := .int _ _) rfl rfl) ?_
              refine seqQ rfl rfl (yAdd rfl rfl rfl (by unfold In64; omega)) ?_
              refine seqQ rfl rfl (yAssign (v := .int _ _) rfl rfl) ?_
              refine seqNil ?_
              -- end loop
              exact loopEnd (k + 1) (by repeat (first | (with_reducible exact Agree.refl _ _) | refine Agree.upd ?_ rfl | refine Agree.over ?_ rfl)) (by omega) ⟨rfl, trivial⟩ ⟨hk, hEf.mine hKg (by simp; omega), by have := hKg.size; omega, _, k5.keep hKg (by simp; omega), hm6.tr (Tr.store hKg (by simp)), rD6.tr (Tr.store hKg (by simp)), kg, hx7.keep hKg (by simp; omega)⟩
            · skip
              obtain rfl : k = (delays pf).length := by omega
              have hok2 := hokk _ (Nat.le_refl _)
              rw [List.take_length] at hx hok2
              have hMk : ∀ b ∈ [g5, g7] ++ rowsB vs, b < Hk.size := fun b hb => by
                rcases List.mem_append.1 hb with hb | hb
                · rcases (show b = g5 ∨ b = g7 by simpa using hb) with rfl | rfl
                  · exact h5.lt
                  · exact h7.lt
                · exact (hx.lt b hb).2
              have rd := (hdat _ (List.getElem_mem hil)).ext hE
              have zE := hE.size
              have gl5 := h5.lt
              have enl : L.lk.now = now := enow
              have esend := sendL_ok (l := L.lk) (d := l[i].data) (by
                intro h
                rcases h with h | h
                · exact h hv
                · have : L.lk.sent = L.sent := rfl
                  omega) (by omega)
              rw [← hpf, enl] at esend
              have hvn : ValidL (sendL L.lk l[i].data).2 := valid_send (by rw [esend])
              have smn : ∀ L2 : LH, L2.lk = (sendL L.lk l[i].data).2 → LkSm L2 := fun L2 h => sm_send sm h
              clear rD hokk
              refine wpExit ?_
              refine hF33 _ _ ?_; clear hF33
              refine wpSeq fun F39 hF39 => ?_
              refine wpRegionD Try_mixed [.q, .q, .q, .q, .q, .q, .e, .q, .q, .q, .n, .e, .q] 12 [0, 0, 0, 6, 14, 30, 63, 127, 255, 255, 0, 1535, 4095] [] (by kernel_rfl) _ rfl [0, 1, 2, 3, 4, 5, 6, 7, 8, 9, 10, 11] rfl (by simp) ?_
              refine lexQ rfl rfl rfl rfl (fun H hM => (yLoadB (h5.ext hM.ext) rfl Try.underlying30 rfl Try.sizeOf30 rfl)) ?_
              refine lexQ rfl rfl rfl rfl (fun H hM => (yMove (v := .slice _ _ _) rfl rfl)) ?_
              refine lexQ rfl rfl rfl rfl (fun H hM => (yMove (v := .int _ _) rfl rfl)) ?_
              refine lexQ rfl rfl rfl rfl (fun H hM => (yIdxP rfl Try.underlying49 Try.sizeOf53 rfl rfl ep rfl hil)) ?_
              refine lexQ rfl rfl rfl rfl (fun H hM => (yFieldAddr rfl Try.underlying53 rfl Try.sizeOf22 rfl rfl)) ?_
              refine lexQ rfl rfl rfl rfl (fun H hM => (yLoad rfl Try.underlying22 rfl rfl (hM.ext.cell (hpp 1 _ rfl)))) ?_
              -- e slot 100: call F22<farandole/link.Send> t94 t99
              refine lexE rfl rfl rfl rfl (fun H100 hX100 hM100 hN100 => stepCall rfl Try.call22 rfl ?_)
              have hc := send_c L l[i].A l[i].cap l[i].data _ (hm.rd.ext hX100) sm (rd.ext hX100) (by omega)
              rw [esend] at hc hvn smn
              dsimp only at hc
              refine hc.mono ?_
              rintro v K3 ⟨L2, rfl, e2, r2, k3⟩
              refine lexFr (F := L2.blksIn H100.size K3.size) k3 (fun b hb => LH.in_blks hb) (by simp) ?_
              refine lexQ rfl rfl rfl rfl (fun H hM => (yMove (v := .tuple _) rfl rfl)) ?_
              refine lexQ rfl rfl rfl rfl (fun H hM => (yExtract (v := .agg _) rfl rfl rfl)) ?_
              refine lexQ rfl rfl rfl rfl (fun H hM => (yExtract (v := .int _ _) rfl rfl rfl)) ?_
              refine lexNB rfl rfl rfl rfl (nAlloc rfl Try.zeroValue30 rfl) (fun g15 hg15 hne15 => ?_)
              -- e slot None: store T30 t15 t101
              refine lexES0 rfl rfl rfl rfl (by first | assumption | omega) (by first | (dsimp only; rfl) | kernel_rfl) (by simp) (fun Hs hXs hMs hBs hFs => stepStoreB rfl (by kernel_rfl) rfl rfl rfl hBs rfl ?_)
              intro K4 h15 hK4
              refine ⟨hK4, fun b hb => by rw [List.append_nil] at hb; have := (LH.in_blks hb).2; have := hXs.size; omega, ?_⟩
              -- tail
              refine lexNil (fun K5 hX5 hM5 hN5 => ?_)
              have zz := hX100.size
              have xi5 := (((hX100.trans k3).trans hXs).mine hK4 (by simp; omega)).trans hX5
              replace h15 := h15.ext hX5
              replace r2 := (r2.beside hXs hK4 hFs).ext hX5
              replace h5 := h5.ext xi5
              replace h7 := h7.ext xi5
              replace hx := hx.ext xi5
              replace hE := hE.trans xi5
              have z5 := xi5.size
              have hm2 : LkM ([g5, g7] ++ rowsB vs) K5 L2 := r2.m (fun b hb => Nat.lt_of_lt_of_le (hMk b hb) zz)
              clear hXs hK4 hX5 hN5 hFs hc hX100 k3 hm xi5 hBs hMs hM5 hM100 r2
              refine seqQ rfl rfl (yAssign (v := .int _ _) rfl rfl) ?_
              refine seqNil ?_
              refine hF39 _ _ ?_; clear hF39
              refine wpSeq fun F40 hF40 => ?_
              refine wpSeq fun F41 hF41 => ?_
              refine wpRegion ?_
              refine seqQ rfl rfl (yMove (v := .int _ _) rfl rfl) ?_
              refine seqQ rfl rfl (yNeq rfl rfl rfl) ?_
              refine seqNil ?_
              refine hF41 _ _ ?_; clear hF41
              -- if t104
              refine wpF rfl ?_
              refine wpSkip ?_
              refine hF40 _ _ ?_; clear hF40
              refine wpRegion ?_
              refine seqQ rfl rfl (yLoadB h15 rfl Try.underlying30 rfl Try.sizeOf30 rfl) ?_
              -- e slot None: store T30 t5 t105
              refine seqE0 rfl rfl (stepStoreB rfl (by kernel_rfl) rfl rfl rfl h5 rfl ?_)
              intro Hm h5' hKm
              have e7 : g7 ≠ g5 := by omega
              have g7l : g7 < H7.size := g7l
              refine seqNil ?_
              -- end cut
              refine hC (l[i].ticks.toNat % 4) _ _ (by repeat (first | (with_reducible exact Agree.refl _ _) | refine Agree.upd ?_ rfl | refine Agree.over ?_ rfl)) ⟨rfl, trivial⟩ ⟨hE.mine hKm (by simp; omega), by have := hKm.size; omega, by omega, fun _ => by omega, fun h => absurd h (by omega), L2, vs, _, h5', hm2.tr (Tr.store hKm (by simp)), by rw [e2]; exact hvn, smn L2 e2, ?_, ?_, ?_, ?_, ?_, h7.keep hKm (by simpa using e7), hx.keep hKm (by simp; omega), by rw [e2]; exact hok2⟩
              · exact (congrArg Lk.pat e2).trans epat
              · exact congrArg Lk.now e2
              · have : L2.sent = L.sent + 1 := congrArg Lk.sent e2
                omega
              · rw [← fly_len, e2]
                have h3 := putAll_len (now := now) (d := arr pf l[i].data) (delays pf) (f := L.lk.fly)
                rw [fly_len] at h3
                show (putAll now (arr pf l[i].data) (delays pf) L.lk.fly).length ≤ _
                omega
              · rw [e2]
                intro x hx
                rcases putAll_mem _ hx with hx | ⟨t, ht, rfl⟩
                · exact hD x hx
                · have := delays_rng ht
                  show now + t ≤ now + 8
                  omega
          · skip
            refine wpSkip ?_
            -- end cut
            refine hC (l[i].ticks.toNat % 4) _ _ (by repeat (first | (with_reducible exact Agree.refl _ _) | refine Agree.upd ?_ rfl | refine Agree.over ?_ rfl)) ⟨rfl, trivial⟩ ⟨hE, z7, by omega, fun _ => by omega, fun h => absurd h (by omega), ?_⟩
            obtain ⟨L, vs, es, h5, hm, hv, sm, epat, enow, hsent, hfl, hD, h7, hx, hok⟩ := ci
            exact ⟨L, vs, es, h5, hm, hv, sm, epat, enow, by omega, by omega, hD, h7, hx, hok⟩
        · skip
          have hil : i = l.length := by dsimp only at hil; omega
          refine wpSkip ?_
          -- end cut
          refine hC 8 _ _ (by repeat (first | (with_reducible exact Agree.refl _ _) | refine Agree.upd ?_ rfl | refine Agree.over ?_ rfl)) ⟨rfl, trivial⟩ ⟨hE, z7, by omega, fun h => absurd h (by omega), fun _ => rfl, ?_⟩
          obtain ⟨L, vs, es, h5, hm, hv, sm, epat, enow, hsent, hfl, hD, h7, hx, hok⟩ := ci
          exact ⟨L, vs, es, h5, hm, hv, sm, epat, enow, by omega, by omega, hD, h7, hx, hok⟩
    · skip
      have hi : i = l.length + 1 := by dsimp only at hile; omega
      rw [if_pos hi] at ci
      obtain ⟨L, vs, es, h5, -, -, -, -, -, -, hfl, -⟩ := ci
      have hempty : L.fly.length = 0 := by omega
      refine wpExit ?_
      refine hF13 _ _ ?_; clear hF13
      refine wpSeq fun F42 hF42 => ?_
      refine wpRegion ?_
      refine seqQ rfl rfl (yLoadB h5 rfl Try.underlying30 rfl Try.sizeOf30 rfl) ?_
      -- e slot 132: call F26<farandole/link.Idle> t131
      refine seqE rfl rfl (stepCall rfl Try.call26 rfl ?_)
      refine (idle_c L Hi).mono ?_
      rintro v Hj ⟨rfl, xj⟩
      rw [decide_eq_true hempty]
      refine seqQ rfl rfl (yAssign (v := .bool _) rfl rfl) ?_
      refine seqNil ?_
      refine hF42 _ _ ?_; clear hF42
      -- ret
      refine wpRet (fin1 (v := .bool _) rfl rfl ?_)
      exact ⟨rfl, hE.trans xj⟩
set_option maxRecDepth 100000 in
set_option maxRecDepth 100000 in
theorem linkCounts_lifted (os : Os) (started : os.Started) (H : Type) (enc : TypeId × Value → H) :
    ReturnsInHanded {} Try.checked os 5 .any (Rows.linkCountsSpec.pre6 enc Try.prog Try.f5 Rows.linkCountsRow.domain false) (Rows.linkCountsSpec.post enc Try.prog Try.f5 false true false false) := by
  refine law_lifted started Rows.linkCountsSpec rfl (by kernel_rfl) Try.func5 rfl
    (fun ds h => by match ds, h with | [_, _], _ => rfl) (of_decide_eq_true (by kernel_rfl))
    (ChangeSpec.witness6 (enc := enc) (C := Try.checked) false ⟨#[], #[.slice none 0 0, .slice none 0 0], []⟩ 8 (by kernel_rfl) (by kernel_rfl) (by kernel_rfl) (by kernel_rfl)) ?_
  intro W base args ds p hval hA
  rw [Try.params5] at hA hval
  obtain ⟨v0, v1, d0, d1, p0, p1, rfl, rfl, rfl, h0, h1⟩ := trodAll_two hA
  have g0 := hval 0 _ v0 rfl rfl
  have g1 := hval 1 _ v1 rfl rfl
  obtain ⟨⟨A, ca, pat⟩, rfl, kA, -, k2, k3⟩ := (opn_bytes W).one (one_slice Try.underlying22 g0) h0
  obtain ⟨⟨B, cb, l⟩, rfl, kB, j1, j2, j3⟩ := (opn_steps W).one (one_slice Try.underlying49 g1) h1
  exact counts_walk A B ca cb pat l W.heap kA kB j1 (by have := Nat.le_trans k2 k3; unfold maxLen at this; exact this) (by have := Nat.le_trans j2 j3; unfold maxLen at this; exact this)
set_option maxRecDepth 100000 in
theorem linkCounts_holds : Rows.LinkCountsSaid :=
  OpenClaim.holds_of_wide 5 Try.f5 rfl rfl rfl rfl rfl rfl rfl ⟨rfl, rfl, rfl, rfl, rfl⟩ rfl rfl rfl rfl rfl (by kernel_rfl) Try.func5 (by kernel_rfl)
    (of_decide_eq_true (by kernel_rfl)) (by unfold Func.isWrapper; first | (rw [if_pos (by decide +kernel)]; kernel_rfl) | (rw [if_neg (by decide +kernel)]; exact ⟨rfl, rfl⟩))
    (fun os started H enc _ => linkCounts_lifted os started H enc)
end Go.Proofs.Ytckbcfldjniafaa
