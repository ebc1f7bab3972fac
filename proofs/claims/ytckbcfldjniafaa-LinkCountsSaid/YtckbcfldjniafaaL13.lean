/- LinkTick: Tick returns the specified link and packets for any link; Delays returns the specified delays. Conditions: none beyond the statement's. -/
import Derived.Test.YtckbcfldjniafaaL12
import Derived.Test.YtckbcfldjniafaaLH
namespace Go.Proofs.Ytckbcfldjniafaa
open Go.ChangeShapes Go.WideShapes Go.ChangeAt Go.RowKit Go.Deep

set_option maxRecDepth 100000 in
theorem opn_bytes (W : World) : Opn Try.prog W 22 1 (fun a : Option Addr × Nat × List UInt8 => [.slice a.1 a.2.2.length a.2.1]) (fun a => Rd eByte W.heap a.1 a.2.2 ∧ (∀ x ∈ a.2.2, True) ∧ a.2.2.length ≤ a.2.1 ∧ a.2.1 ≤ maxLen) :=
  opn_slice (c := eByte) Try.underlying22 (by kernel_rfl) (opn_byte Try.underlying5 (by kernel_rfl))
set_option maxRecDepth 100000 in
theorem opn_flight (W : World) : Opn Try.prog W 63 2 eFH.F (fun x : FH => Rd eByte W.heap x.A x.data ∧ In64 x.due) :=
  (opn_struct Try.underlying63 (by kernel_rfl) (opnF_cons rfl (opn_int Try.underlying3 (by kernel_rfl)) (opnF_cons rfl (opn_bytes W) (opnF_nil rfl)))).map
    (fun a => (⟨a.1, a.2.1.1, a.2.1.2.1, a.2.1.2.2⟩ : FH)) (fun _ => rfl) (fun _ h => ⟨h.2.1.1, h.1⟩)
set_option maxRecDepth 100000 in
theorem opn_flights (W : World) : Opn Try.prog W 23 1 (fun a : Option Addr × Nat × List FH => [.slice a.1 a.2.2.length a.2.1]) (fun a => Rd eFH W.heap a.1 a.2.2 ∧ (∀ x ∈ a.2.2, Rd eByte W.heap x.A x.data ∧ In64 x.due) ∧ a.2.2.length ≤ a.2.1 ∧ a.2.1 ≤ maxLen) :=
  opn_slice (c := eFH) Try.underlying23 (by kernel_rfl) (opn_flight W)
/-- What is known of a link that is an argument. -/
structure LkArg (H : Heap) (l : LH) : Prop where
  rd : LkRd H l
  len : l.fly.length ≤ 9223372036854775807
  plen : l.pat.length ≤ 9223372036854775807
  now : In64 l.now
  sent : In64 l.sent
set_option maxRecDepth 100000 in
theorem opn_link (W : World) : Opn Try.prog W 25 4 (fun l : LH => lkC l) (LkArg W.heap) :=
  (opn_struct Try.underlying25 (by kernel_rfl) (opnF_cons rfl (opn_bytes W) (opnF_cons rfl (opn_int Try.underlying3 (by kernel_rfl)) (opnF_cons rfl (opn_int Try.underlying3 (by kernel_rfl)) (opnF_cons rfl (opn_flights W) (opnF_nil rfl)))))).map
    (fun a => (⟨a.1.1, a.1.2.1, a.1.2.2, a.2.1, a.2.2.1, a.2.2.2.1.1, a.2.2.2.1.2.1, a.2.2.2.1.2.2⟩ : LH)) (fun _ => rfl)
    (fun _ h => ⟨⟨h.1.1, h.2.2.2.1.1, fun x hx => (h.2.2.2.1.2.1 x hx).1, h.2.2.2.1.2.2.1⟩, by have h1 := h.2.2.2.1.2.2.1; have h2 := h.2.2.2.1.2.2.2; have h3 := Nat.le_trans h1 h2; unfold maxLen at h3; exact h3, by have h1 := h.1.2.2.1; have h2 := h.1.2.2.2; have h3 := Nat.le_trans h1 h2; unfold maxLen at h3; exact h3, h.2.1, h.2.2.1⟩)
set_option maxRecDepth 100000 in
theorem ValidL.of {l : Lk} (h1 : l.pat.length ≤ 200) (h2 : 0 ≤ l.now ∧ l.now ≤ 1099511627776) (h3 : 0 ≤ l.sent ∧ l.sent ≤ 1099511627776) (hg : GoodF l.now l.fly) : ValidL l := by
  have hgd : ∀ (k : Nat) (hk : k < l.fly.length), l.fly.getD k (0, []) = l.fly[k] := fun k hk => by rw [List.getD_eq_getElem?_getD, List.getElem?_eq_getElem hk]; rfl
  refine ⟨h1, h2, h3, hg.len, fun k hk => ?_⟩
  have hr := hg.rng _ (List.getElem_mem hk)
  unfold FOk
  rw [hgd k hk]
  refine ⟨hr.2.2, hr.1, hr.2.1, fun h0 => ?_⟩
  rw [hgd (k - 1) (by omega)]
  exact (List.pairwise_iff_getElem.1 hg.srt) (k - 1) k (by omega) hk (by omega)
set_option maxRecDepth 100000 in
theorem GoodF.tick {now : Int} {f : List Fl} (h : GoodF now f) : GoodF (now + 1) (f.dropWhile (fun x => decide (x.1 = now + 1))) := by
  have e := h.tw.2
  rw [← e]
  refine ⟨Nat.le_trans (List.length_filter_le _ _) h.len, h.srt.filter _, fun x hx => ?_⟩
  obtain ⟨h1, h2⟩ := List.mem_filter.1 hx
  have h2 : ¬ x.1 = now + 1 := by simpa using h2
  have := h.rng x h1
  omega
set_option maxRecDepth 100000 in
theorem valid_tick {l : Lk} (h : ValidL l) : ValidL (tickL l).1 := by
  by_cases hn : l.now = 1099511627776
  · rw [tickL_bad (.inr hn)]
    decide
  · rw [tickL_ok (by intro hb; rcases hb with hb | hb; exact hb h; exact hn hb)]
    obtain ⟨h1, h2, h3, -, -⟩ := id h
    exact ValidL.of h1 (by dsimp only; omega) h3 h.good.tick
set_option maxRecDepth 100000 in
theorem LkRd.sm_tick {l L : LH} (h : LkSm l) (he : L.lk = (tickL l.lk).1) : LkSm L := by
  have hp : l.lk.pat = l.pat := rfl
  have hb : ∀ x ∈ l.lk.fly, x.2.length ≤ 100000 := fun x hx => by
    obtain ⟨y, hy, rfl⟩ := List.mem_map.1 hx
    exact h.data y hy
  have h2 := h.fly
  rw [← fly_len] at h2
  by_cases hbad : ¬ ValidL l.lk ∨ l.lk.now = 1099511627776
  · rw [tickL_bad hbad] at he
    exact sm_of he (by decide) (by decide) (by decide)
  · rw [tickL_ok hbad] at he
    refine sm_of he h.pat ?_ fun x hx => ?_
    · exact Nat.le_trans (List.dropWhile_sublist _).length_le h2
    · exact hb x ((List.dropWhile_sublist _).subset hx)
set_option maxRecDepth 100000 in
theorem tick_walk (l : LH) (p : UInt8) (H : Heap) (h : LkArg H l) :
    CallsH Try.prog 3 [.agg (lkC l).toArray, .int .u8 (p.toNat : Int)] H fun v H' => v = .bool true ∧ Ext H H' := by
  refine callsH_of Try.func3 rfl Try.ntmps3 (Nat.le_of_ble_eq_true rfl) ?_
  refine wpSeq fun F1 hF1 => ?_
  refine wpRegion ?_
  refine seqN rfl rfl (nBoxA rfl rfl) (fun g2 H2 hx2 hB2 hg2 hl2 => ?_)
  refine seqQ rfl rfl (yAssign (v := .bool _) rfl rfl) ?_
  refine seqNil ?_
  refine hF1 _ _ ?_; clear hF1
  refine wpSeq fun F2 hF2 => ?_
  refine wpSeq fun F3 hF3 => ?_
  refine wpRegion ?_
  -- e slot 12: call F9<farandole/farandolelaw45.awake> 
  refine seqE rfl rfl (stepCall rfl Try.call9 rfl ?_)
  refine (lkAwake_c _).mono ?_
  rintro v Ha ⟨rfl, xa⟩
  have h2 := hB2.ext xa
  have hE := hx2.trans xa
  clear hB2 hx2 xa
  refine seqQ rfl rfl (yNot rfl rfl) ?_
  refine seqNil ?_
  refine hF3 _ _ ?_; clear hF3
  -- if t13
  refine wpF rfl ?_
  refine wpSkip ?_
  refine hF2 _ _ ?_; clear hF2
  refine wpSeq fun F4 hF4 => ?_
  refine wpSeq fun F5 hF5 => ?_
  refine wpRegion ?_
  refine seqQ rfl rfl (yLoadB h2 rfl Try.underlying25 rfl Try.sizeOf25 rfl) ?_
  -- e slot 15: call F10<farandole/farandoleref45.Few> t14
  refine seqE rfl rfl (stepCall rfl Try.call10 rfl ?_)
  refine (fewL_c l Ha (h.rd.ext hE) h.len).mono ?_
  rintro v Hb ⟨rfl, xb⟩
  replace h2 := h2.ext xb
  replace hE := hE.trans xb
  clear xb
  refine seqQ rfl rfl (yNot rfl rfl) ?_
  refine seqNil ?_
  refine hF5 _ _ ?_; clear hF5
  -- if t16
  refine wpCond rfl (fun hf => ?_) (fun hf => ?_)
  · skip
    refine wpSeq fun F6 hF6 => ?_
    refine wpRegion ?_
    refine seqQ rfl rfl (yAssign (v := .bool _) rfl rfl) ?_
    refine seqNil ?_
    refine hF6 _ _ ?_; clear hF6
    -- ret
    refine wpRet (fin1 (v := .bool _) rfl rfl ?_)
    exact ⟨rfl, hE⟩
  · skip
    have hf : FewL l := by simpa using hf
    have hs := hf.sm
    refine wpSkip ?_
    refine hF4 _ _ ?_; clear hF4
    refine wpSeq fun F7 hF7 => ?_
    refine wpRegion ?_
    refine seqQ rfl rfl (yLoadB h2 rfl Try.underlying25 rfl Try.sizeOf25 rfl) ?_
    -- e slot 19: call F12<farandole/farandolelaw45.To> t18
    refine seqE rfl rfl (stepCall rfl Try.call12 rfl ?_)
    refine (to_c l Hb (h.rd.ext hE) hs).mono ?_
    rintro v Hc ⟨l1, rfl, e1, r1, xc⟩
    -- e slot 20: call F11<farandole/link.Tick> t19
    refine seqE rfl rfl (stepCall rfl Try.call11 rfl ?_)
    have hs1 : LkSm l1 := sm_of e1 hs.pat (by rw [fly_len]; exact hs.fly) (fun x hx => by obtain ⟨y, hy, rfl⟩ := List.mem_map.1 hx; exact hs.data y hy)
    refine (tick_c l1 Hc r1 hs1).mono ?_
    rintro v Hd ⟨La, VA, va, xs, rfl, ea, eb, ra, px, xd⟩
    rw [e1] at ea eb
    refine seqQ rfl rfl (yMove (v := .tuple _) rfl rfl) ?_
    refine seqQ rfl rfl (yExtract (v := .agg _) rfl rfl rfl) ?_
    refine seqQ rfl rfl (yExtract (v := .slice _ _ _) rfl rfl rfl) ?_
    refine seqN rfl rfl (nAlloc rfl Try.zeroValue30 rfl) (fun g5 H5 hx5 hB5 hg5 hl5 => ?_)
    -- e slot None: store T30 t5 t21
    refine seqE0 rfl rfl (stepStoreB rfl (by kernel_rfl) rfl rfl rfl hB5 rfl ?_)
    intro He h5 hKe
    have xe : Ext Hd He := hx5.mine hKe (by simp; omega)
    replace h2 := ((h2.ext xc).ext xd).ext xe
    replace hE := ((hE.trans xc).trans xd).trans xe
    replace ra := ra.rd.ext xe
    replace px := px.ext xe
    clear hB5 hKe hx5 xc xd xe r1
    refine seqQ rfl rfl (yAssign (v := .slice _ _ _) rfl rfl) ?_
    refine seqNil ?_
    refine hF7 _ _ ?_; clear hF7
    refine wpSeq fun F8 hF8 => ?_
    refine wpRegion ?_
    refine seqQ rfl rfl (yLoadB h2 rfl Try.underlying25 rfl Try.sizeOf25 rfl) ?_
    -- e slot 25: call F13<farandole/farandoleref45.Tick> t24
    refine seqE rfl rfl (stepCall rfl Try.call13 rfl ?_)
    refine (rTick_c l He (h.rd.ext hE) hs).mono ?_
    rintro v Hf ⟨Lb, WA, wa, ys, rfl, ec, ed, rb, py, xf⟩
    refine seqQ rfl rfl (yMove (v := .tuple _) rfl rfl) ?_
    refine seqQ rfl rfl (yExtract (v := .agg _) rfl rfl rfl) ?_
    refine seqQ rfl rfl (yExtract (v := .slice _ _ _) rfl rfl rfl) ?_
    refine seqN rfl rfl (nAlloc rfl Try.zeroValue25 rfl) (fun g7 H7 hx7 hB7 hg7 hl7 => ?_)
    -- e slot None: store T25 t7 t26
    refine seqE0 rfl rfl (stepStoreB rfl (by kernel_rfl) rfl rfl rfl hB7 rfl ?_)
    intro Hg h7 hKg
    have xg : Ext He Hg := xf.trans (hx7.mine hKg (by simp; omega))
    have xfg : Ext Hf Hg := hx7.mine hKg (by simp; omega)
    replace h2 := h2.ext xg
    replace h5 := h5.ext xg
    replace hE := hE.trans xg
    replace ra := ra.ext xg
    replace px := px.ext xg
    replace rb := rb.ext xfg
    replace py := py.ext xfg
    clear hB7 hKg hx7 xf xg xfg
    refine seqQ rfl rfl (yAssign (v := .slice _ _ _) rfl rfl) ?_
    refine seqNil ?_
    refine hF8 _ _ ?_; clear hF8
    refine wpSeq fun F9 hF9 => ?_
    refine wpRegion ?_
    refine seqQ rfl rfl (yMove (v := .int _ _) rfl rfl) ?_
    -- e slot 29: call F14<farandole/link.Delays> t28
    refine seqE rfl rfl (stepCall rfl Try.call14 rfl ?_)
    refine (delays_c p Hg).mono ?_
    rintro v Hh ⟨oD, xh⟩
    obtain ⟨DA, dc, rfl, -⟩ := oD.form
    refine seqQ rfl rfl (yMove (v := .int _ _) rfl rfl) ?_
    -- e slot 31: call F15<farandole/farandoleref45.Delays> t30
    refine seqE rfl rfl (stepCall rfl Try.call15 rfl ?_)
    refine (rDelays_c p Hh).mono ?_
    rintro v Hi ⟨oW, xi⟩
    obtain ⟨WD, wd, rfl, -⟩ := oW.form
    have xhi := xh.trans xi
    replace h2 := h2.ext xhi
    replace h5 := h5.ext xhi
    replace h7 := h7.ext xhi
    replace hE := hE.trans xhi
    replace ra := ra.ext xhi
    replace px := px.ext xhi
    replace rb := rb.ext xhi
    replace py := py.ext xhi
    have rDd := (Own.rd (oD.ext xi)).2
    have rW := (Own.rd oW).2
    clear oD oW xh xi xhi
    have hsa := LkRd.sm_tick hs ea
    have hxl : xs.length ≤ 100000 := by
      have := congrArg List.length eb
      rw [List.length_map] at this
      have h0 : (tickL l.lk).2.length ≤ l.lk.fly.length := by
        unfold tickL
        split
        · simp
        · dsimp only
          rw [List.length_map]
          exact (List.takeWhile_sublist _).length_le
      rw [fly_len] at h0
      have := hs.fly
      omega
    have hdl := delays_len p
    refine seqQ rfl rfl (yAssign (v := .slice _ _ _) rfl rfl) ?_
    refine seqQ rfl rfl (yAssign (v := .slice _ _ _) rfl rfl) ?_
    refine seqNil ?_
    refine hF9 _ _ ?_; clear hF9
    refine wpSeq fun F10 hF10 => ?_
    refine wpSeq fun F11 hF11 => ?_
    refine wpRegionD Try_mixed [.q, .e, .q, .e, .q, .q, .q, .q, .e, .q, .q, .q, .q, .q, .q, .q, .q, .q] 16 [0, 1, 0, 7, 15, 31, 63, 63, 255, 511, 1023, 2047, 4095, 8191, 4095, 20479, 65535, 131071] [] (by kernel_rfl) _ rfl [0, 1, 2, 3, 4, 5, 6, 7, 8, 9, 10, 11, 12, 13, 14, 15] rfl (by simp) ?_
    refine lexQ rfl rfl rfl rfl (fun H hM => (yLoadB (h5.ext hM.ext) rfl Try.underlying30 rfl Try.sizeOf30 rfl)) ?_
    -- e slot 33: call F17<farandole/farandolelaw45.From> t32
    refine lexX0 rfl rfl rfl rfl rfl (by simp) (fun hM33 => stepCall rfl Try.call17 rfl ?_)
    refine (from_c La Hi ra hsa).mono ?_
    rintro v Hj ⟨Lc, rfl, e3, r3, xj⟩
    refine ⟨xj, fun _ => ?_⟩
    refine lexQ rfl rfl rfl rfl (fun H hM => (yLoadB (h7.ext hM.ext) rfl Try.underlying25 rfl Try.sizeOf25 rfl)) ?_
    -- e slot 35: call F16<farandole/farandoleref45.Equal> t33 t34
    refine lexX0 rfl rfl rfl rfl rfl (by simp) (fun hM35 => stepCall rfl Try.call16 rfl ?_)
    refine (rEqualL_c Lc Lb Hj r3 (rb.ext xj) (by have := hsa.fly; have := (LkRd.sm_eq e3).2.2.2; omega)).mono ?_
    rintro v Hk ⟨hv, xk⟩
    obtain rfl : v = .bool true := hv.trans (by rw [decide_eq_true (by rw [e3, ea, ec])])
    refine ⟨xk, fun _ => ?_⟩
    have xjk := xj.trans xk
    refine lexQ rfl rfl rfl rfl (fun H hM => (yNot rfl rfl)) ?_
    refine lexQ rfl rfl rfl rfl (fun H hM => (yMove (v := .bool false) rfl rfl)) ?_
    refine lexQ rfl rfl rfl rfl (fun H hM => (yMove (v := .slice _ _ _) rfl rfl)) ?_
    refine lexQ rfl rfl rfl rfl (fun H hM => (yMove (v := .slice _ _ _) rfl rfl)) ?_
    -- e slot 40: call F18<farandole/farandolelaw45.sameAll> t38 t39
    refine lexX0 rfl rfl rfl rfl rfl (by simp) (fun hM40 => stepCall rfl Try.call18 rfl ?_)
    refine (sameAll_c VA WA va wa xs ys Hk (px.rd.ext xjk) (py.rd.ext xjk) (fun z hz => (px.data z hz).ext xjk) (fun z hz => (py.data z hz).ext xjk) hxl).mono ?_
    rintro v Hz ⟨hv, e⟩
    obtain rfl := e.symm
    clear e
    obtain rfl : v = .bool true := hv.trans (by rw [decide_eq_true (by rw [eb, ed])])
    refine ⟨Ext.refl _, fun _ => ?_⟩
    refine lexQ rfl rfl rfl rfl (fun H hM => (yNot rfl rfl)) ?_
    refine lexQ rfl rfl rfl rfl (fun H hM => (yPickF (v := .bool _) rfl rfl rfl)) ?_
    refine lexQ rfl rfl rfl rfl (fun H hM => (yMove (v := .bool false) rfl rfl)) ?_
    refine lexQ rfl rfl rfl rfl (fun H hM => (yMove (v := .slice _ _ _) rfl rfl)) ?_
    refine lexQ rfl rfl rfl rfl (fun H hM => (yLen rfl Try.underlying37 rfl)) ?_
    refine lexQ rfl rfl rfl rfl (fun H hM => (yMove (v := .slice _ _ _) rfl rfl)) ?_
    refine lexQ rfl rfl rfl rfl (fun H hM => (yLen rfl Try.underlying37 rfl)) ?_
    -- tail
    refine lexNil0 rfl (fun hM => ?_)
    refine seqQ rfl rfl (yNeq rfl rfl rfl) ?_
    refine seqQ rfl rfl (yPickF (v := .bool _) rfl rfl rfl) ?_
    refine seqNil ?_
    refine hF11 _ _ ?_; clear hF11
    -- if t49
    refine wpCond rfl (fun hq => ?_) (fun hq => ?_)
    · skip
      simp at hq
    · skip
      replace h2 := h2.ext xjk
      replace h5 := h5.ext xjk
      replace hE := hE.trans xjk
      replace ra := ra.ext xjk
      replace rDd := rDd.ext xjk
      replace rW := rW.ext xjk
      clear px py rb r3 h7 xj xk xjk
      refine wpSkip ?_
      refine hF10 _ _ ?_; clear hF10
      refine wpSeq fun F12 hF12 => ?_
      refine wpSeq fun F13 hF13 => ?_
      refine wpRegion ?_
      refine seqQ rfl rfl (yAssign (v := .int _ _) rfl rfl) ?_
      refine seqNil ?_
      refine hF13 _ _ ?_; clear hF13
      -- loop
      refine wpBlock ?_
      refine wpLoopS [4, 11, 50, 51, 52, 53, 54, 55, 56, 57, 58, 59, 60, 61, 62, 63, 64] (fun k : Nat => [(11, .int .i64 k)]) (fun k H' => k ≤ (delays p).length ∧ H' = Hk) (fun k => (delays p).length - k) 0 ⟨rfl, trivial⟩ ⟨Nat.zero_le _, rfl⟩ ?_
      rintro k J Hm ⟨hk, rfl⟩
      refine wpSeq fun F14 hF14 => ?_
      refine wpSeq fun F15 hF15 => ?_
      refine wpRegion ?_
      refine seqQ rfl rfl (yMove (v := .int _ _) rfl rfl) ?_
      refine seqQ rfl rfl (yMove (v := .slice _ _ _) rfl rfl) ?_
      refine seqQ rfl rfl (yLen rfl Try.underlying37 rfl) ?_
      refine seqQ rfl rfl (yLss rfl rfl rfl) ?_
      refine seqNil ?_
      refine hF15 _ _ ?_; clear hF15
      -- if t53
      refine wpIf rfl (fun hlt => ?_) (fun hlt => ?_)
      · skip
        have hk : k < (delays p).length := by omega
        obtain ⟨q1, eq1, hq1⟩ := rDd.at1 hk
        obtain ⟨q2, eq2, hq2⟩ := rW.at1 hk
        refine wpSkip ?_
        refine hF14 _ _ ?_; clear hF14
        refine wpSeq fun F16 hF16 => ?_
        refine wpBlock ?_
        refine wpSeq fun F17 hF17 => ?_
        refine wpRegionD Try_mixed [.q, .q, .q, .q, .q, .q, .q, .q, .q] 8 [0, 0, 3, 7, 0, 0, 48, 112, 255] [] (by kernel_rfl) _ rfl [0, 1, 2, 3, 4, 5, 6, 7] rfl (by simp) ?_
        refine lexQ rfl rfl rfl rfl (fun H hM => (yMove (v := .slice _ _ _) rfl rfl)) ?_
        refine lexQ rfl rfl rfl rfl (fun H hM => (yMove (v := .int _ _) rfl rfl)) ?_
        refine lexQ rfl rfl rfl rfl (fun H hM => (yIdxP1 rfl Try.underlying37 Try.sizeOf3 rfl rfl eq1 rfl hk)) ?_
        refine lexQ rfl rfl rfl rfl (fun H hM => (yLoad rfl Try.underlying3 rfl rfl (hM.ext.cell hq1))) ?_
        refine lexQ rfl rfl rfl rfl (fun H hM => (yMove (v := .slice _ _ _) rfl rfl)) ?_
        refine lexQ rfl rfl rfl rfl (fun H hM => (yMove (v := .int _ _) rfl rfl)) ?_
        refine lexQ rfl rfl rfl rfl (fun H hM => (yIdxP1 rfl Try.underlying37 Try.sizeOf3 rfl rfl eq2 rfl hk)) ?_
        refine lexQ rfl rfl rfl rfl (fun H hM => (yLoad rfl Try.underlying3 rfl rfl (hM.ext.cell hq2))) ?_
        -- tail
        refine lexNil0 rfl (fun hM => ?_)
        refine seqQ rfl rfl (yNeq rfl rfl rfl) ?_
        refine seqNil ?_
        refine hF17 _ _ ?_; clear hF17
        -- if t64
        refine wpCond rfl (fun hn => ?_) (fun hn => ?_)
        · skip
          simp at hn
        · skip
          refine wpSkip ?_
          refine hF16 _ _ ?_; clear hF16
          refine wpRegion ?_
          refine seqQ rfl rfl (yMove (v := .int _ _) rfl rfl) ?_
          refine seqQ rfl rfl (yAdd rfl rfl rfl (by unfold In64; omega)) ?_
          refine seqQ rfl rfl (yAssign (v := .int _ _) rfl rfl) ?_
          refine seqNil ?_
          -- end loop
          exact loopEnd (k + 1) (by repeat (first | (with_reducible exact Agree.refl _ _) | refine Agree.upd ?_ rfl | refine Agree.over ?_ rfl)) (by omega) ⟨rfl, trivial⟩ ⟨hk, rfl⟩
      · skip
        refine wpExit ?_
        refine hF12 _ _ ?_; clear hF12
        refine wpSeq fun F18 hF18 => ?_
        refine wpRegion ?_
        refine seqQ rfl rfl (yLoadB h2 rfl Try.underlying25 rfl Try.sizeOf25 rfl) ?_
        -- e slot 66: call F19<farandole/farandoleref45.Valid> t65
        refine seqE rfl rfl (stepCall rfl Try.call19 rfl ?_)
        refine (rValidL_c l Hm (h.rd.ext hE) hs).mono ?_
        rintro v Hn ⟨rfl, xn⟩
        by_cases hv : ValidL l.lk
        · skip
          rw [decide_eq_true hv]
          refine seqQ rfl rfl (yNot rfl rfl) ?_
          refine seqQ rfl rfl (yMove (v := .bool false) rfl rfl) ?_
          refine seqQ rfl rfl (yLoadB (h5.ext xn) rfl Try.underlying30 rfl Try.sizeOf30 rfl) ?_
          -- e slot 70: call F20<farandole/link.Valid> t69
          refine seqE rfl rfl (stepCall rfl Try.call20 rfl ?_)
          refine (lValid_c La Hn (ra.ext xn) hsa).mono ?_
          rintro v Ho ⟨hw, xo⟩
          obtain rfl : v = .bool true := hw.trans (by rw [decide_eq_true (by rw [ea]; exact valid_tick hv)])
          refine seqQ rfl rfl (yPickF (v := .bool _) rfl rfl rfl) ?_
          refine seqQ rfl rfl (yAssign (v := .bool _) rfl rfl) ?_
          refine seqNil ?_
          refine hF18 _ _ ?_; clear hF18
          -- ret
          refine wpRet (fin1 (v := .bool _) rfl rfl ?_)
          exact ⟨rfl, (hE.trans xn).trans xo⟩
        · skip
          rw [decide_eq_false hv]
          refine seqQ rfl rfl (yNot rfl rfl) ?_
          refine seqQ rfl rfl (yMove (v := .bool true) rfl rfl) ?_
          refine seqU rfl rfl ?_
          refine seqU rfl rfl ?_
          refine seqQ rfl rfl (yPickT (v := .bool _) rfl rfl rfl) ?_
          refine seqQ rfl rfl (yAssign (v := .bool _) rfl rfl) ?_
          refine seqNil ?_
          refine hF18 _ _ ?_; clear hF18
          -- ret
          refine wpRet (fin1 (v := .bool _) rfl rfl ?_)
          exact ⟨rfl, hE.trans xn⟩
set_option maxRecDepth 100000 in
set_option maxRecDepth 100000 in
theorem linkTick_lifted (os : Os) (started : os.Started) (H : Type) (enc : TypeId × Value → H) :
    ReturnsInHanded {} Try.checked os 3 .any (Rows.linkTickSpec.pre6 enc Try.prog Try.f3 Rows.linkTickRow.domain false) (Rows.linkTickSpec.post enc Try.prog Try.f3 false true false false) := by
  refine law_lifted started Rows.linkTickSpec rfl (by kernel_rfl) Try.func3 rfl
    (fun ds h => by match ds, h with | [_, _], _ => rfl) (of_decide_eq_true (by kernel_rfl))
    (ChangeSpec.witness6 (enc := enc) (C := Try.checked) false ⟨#[], #[.agg #[.slice none 0 0, .int .i64 0, .int .i64 0, .slice none 0 0], .int .u8 0], []⟩ 8 (by kernel_rfl) (by kernel_rfl) (by kernel_rfl) (by kernel_rfl)) ?_
  intro W base args ds p hval hA
  rw [Try.params3] at hA hval
  obtain ⟨v0, v1, d0, d1, p0, p1, rfl, rfl, rfl, h0, h1⟩ := trodAll_two hA
  have g0 := hval 0 _ v0 rfl rfl
  have g1 := hval 1 _ v1 rfl rfl
  obtain ⟨l, rfl, hl⟩ := (opn_link W).agg Try.underlying25 rfl g0 h0
  obtain ⟨p', rfl, hp1, hp2⟩ := (opn_u8i (W := W) Try.underlying5 (by kernel_rfl)).one (one_int Try.underlying5 g1) h1
  obtain ⟨p, rfl⟩ : ∃ p : UInt8, p' = (p.toNat : Int) := ⟨UInt8.ofNat p'.toNat, by
    rw [UInt8.toNat_ofNat']
    omega⟩
  exact tick_walk l p W.heap hl
set_option maxRecDepth 100000 in
theorem linkTick_holds : Rows.LinkTickSaid :=
  OpenClaim.holds_of_wide 3 Try.f3 rfl rfl rfl rfl rfl rfl rfl ⟨rfl, rfl, rfl, rfl, rfl⟩ rfl rfl rfl rfl rfl (by kernel_rfl) Try.func3 (by kernel_rfl)
    (of_decide_eq_true (by kernel_rfl)) (by unfold Func.isWrapper; first | (rw [if_pos (by decide +kernel)]; kernel_rfl) | (rw [if_neg (by decide +kernel)]; exact ⟨rfl, rfl⟩))
    (fun os started H enc _ => linkTick_lifted os started H enc)
end Go.Proofs.Ytckbcfldjniafaa
