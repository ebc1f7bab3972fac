/- LinkDrain: after MaxDelay ticks without sending, any valid link is idle; no copy is returned twice. Conditions: none beyond the statement's. -/
import Derived.Test.YtckbcfldjniafaaL15
namespace Go.Proofs.Ytckbcfldjniafaa
open Go.ChangeShapes Go.WideShapes Go.ChangeAt Go.RowKit Go.Deep

set_option maxRecDepth 100000 in
theorem tick_ok {l : Lk} (hv : ValidL l) (hn : l.now < 1099511627776) : tickL l = ({ l with now := l.now + 1, fly := l.fly.dropWhile (fun f => decide (f.1 = l.now + 1)) }, (l.fly.takeWhile (fun f => decide (f.1 = l.now + 1))).map (·.2)) :=
  tickL_ok (by intro h; rcases h with h | h; exact h hv; omega)
set_option maxRecDepth 100000 in
theorem tick_count {l : Lk} (hv : ValidL l) (hn : l.now < 1099511627776) : (tickL l).2.length + (tickL l).1.fly.length = l.fly.length := by
  rw [tick_ok hv hn]
  dsimp only
  rw [List.length_map, ← List.length_append, List.takeWhile_append_dropWhile]
set_option maxRecDepth 100000 in
theorem tick_sub {l : Lk} (hv : ValidL l) (hn : l.now < 1099511627776) : ∀ x ∈ (tickL l).1.fly, x ∈ l.fly := fun x hx => by
  rw [tick_ok hv hn] at hx
  exact (List.dropWhile_sublist _).subset hx
set_option maxRecDepth 100000 in
theorem drain_walk (l : LH) (H : Heap) (h : LkArg H l) :
    CallsH Try.prog 7 [.agg (lkC l).toArray] H fun v H' => v = .bool true ∧ Ext H H' := by
  refine callsH_of Try.func7 rfl Try.ntmps7 (Nat.le_of_ble_eq_true rfl) ?_
  refine wpSeq fun F1 hF1 => ?_
  refine wpRegion ?_
  refine seqN rfl rfl (nBoxA rfl rfl) (fun g1 H1 hx1 hB1 hg1 hl1 => ?_)
  refine seqQ rfl rfl (yAssign (v := .bool _) rfl rfl) ?_
  refine seqNil ?_
  refine hF1 _ _ ?_; clear hF1
  refine wpSeq fun F2 hF2 => ?_
  refine wpSeq fun F3 hF3 => ?_
  refine wpRegion ?_
  -- e slot 8: call F9<farandole/farandolelaw45.awake> 
  refine seqE rfl rfl (stepCall rfl Try.call9 rfl ?_)
  refine (lkAwake_c _).mono ?_
  rintro v Ha ⟨rfl, xa⟩
  have h1 := hB1.ext xa
  have hE := hx1.trans xa
  clear hB1 hx1 xa
  refine seqQ rfl rfl (yNot rfl rfl) ?_
  refine seqNil ?_
  refine hF3 _ _ ?_; clear hF3
  -- if t9
  refine wpF rfl ?_
  refine wpSkip ?_
  refine hF2 _ _ ?_; clear hF2
  refine wpSeq fun F4 hF4 => ?_
  refine wpSeq fun F5 hF5 => ?_
  refine wpRegion ?_
  refine seqQ rfl rfl (yLoadB h1 rfl Try.underlying25 rfl Try.sizeOf25 rfl) ?_
  -- e slot 11: call F10<farandole/farandoleref45.Few> t10
  refine seqE rfl rfl (stepCall rfl Try.call10 rfl ?_)
  refine (fewL_c l Ha (h.rd.ext hE) h.len).mono ?_
  rintro v Hb ⟨rfl, xb⟩
  replace h1 := h1.ext xb
  replace hE := hE.trans xb
  clear xb
  refine seqQ rfl rfl (yNot rfl rfl) ?_
  -- guard t13
  refine seqGB rfl rfl rfl rfl (fun hf => ?_) (fun hf => ?_)
  · skip
    refine seqU rfl rfl ?_
    refine seqU rfl rfl ?_
    refine seqU rfl rfl ?_
    refine seqQ rfl rfl (yPickT (v := .bool _) rfl rfl rfl) ?_
    refine seqQ rfl rfl (yMove (v := .bool true) rfl rfl) ?_
    refine seqU rfl rfl ?_
    refine seqU rfl rfl ?_
    refine seqU rfl rfl ?_
    refine seqQ rfl rfl (yPickT (v := .bool _) rfl rfl rfl) ?_
    refine seqNil ?_
    refine hF5 _ _ ?_; clear hF5
    -- if t22
    refine wpT rfl ?_
    refine wpSeq fun F6 hF6 => ?_
    refine wpRegion ?_
    refine seqQ rfl rfl (yAssign (v := .bool _) rfl rfl) ?_
    refine seqNil ?_
    refine hF6 _ _ ?_; clear hF6
    -- ret
    refine wpRet (fin1 (v := .bool _) rfl rfl ?_)
    exact ⟨rfl, hE⟩
  · skip
    have hf : FewL l := by simpa using hf
    have hs := hf.sm
    refine seqQ rfl rfl (yLoadB h1 rfl Try.underlying25 rfl Try.sizeOf25 rfl) ?_
    -- e slot 15: call F19<farandole/farandoleref45.Valid> t14
    refine seqE rfl rfl (stepCall rfl Try.call19 rfl ?_)
    refine (rValidL_c l Hb (h.rd.ext hE) hs).mono ?_
    rintro v Hc ⟨rfl, xc⟩
    replace h1 := h1.ext xc
    replace hE := hE.trans xc
    clear xc
    refine seqQ rfl rfl (yNot rfl rfl) ?_
    refine seqQ rfl rfl (yPickF (v := .bool _) rfl rfl rfl) ?_
    -- guard t18
    refine seqGB rfl rfl rfl rfl (fun hv => ?_) (fun hv => ?_)
    · skip
      refine seqU rfl rfl ?_
      refine seqU rfl rfl ?_
      refine seqU rfl rfl ?_
      refine seqQ rfl rfl (yPickT (v := .bool _) rfl rfl rfl) ?_
      refine seqNil ?_
      refine hF5 _ _ ?_; clear hF5
      -- if t22
      refine wpT rfl ?_
      refine wpSeq fun F7 hF7 => ?_
      refine wpRegion ?_
      refine seqQ rfl rfl (yAssign (v := .bool _) rfl rfl) ?_
      refine seqNil ?_
      refine hF7 _ _ ?_; clear hF7
      -- ret
      refine wpRet (fin1 (v := .bool _) rfl rfl ?_)
      exact ⟨rfl, hE⟩
    · skip
      have hv : ValidL l.lk := by simpa using hv
      refine seqQ rfl rfl (yFieldAddr rfl Try.underlying25 rfl Try.sizeOf3 rfl rfl) ?_
      refine seqQ rfl rfl (yLoad rfl Try.underlying3 rfl rfl (h1.cell rfl)) ?_
      refine seqQ rfl rfl (yGtr rfl rfl rfl) ?_
      refine seqQ rfl rfl (yPickF (v := .bool _) rfl rfl rfl) ?_
      refine seqNil ?_
      refine hF5 _ _ ?_; clear hF5
      -- if t22
      refine wpIf rfl (fun hbig => ?_) (fun hbig => ?_)
      · skip
        refine wpSeq fun F8 hF8 => ?_
        refine wpRegion ?_
        refine seqQ rfl rfl (yAssign (v := .bool _) rfl rfl) ?_
        refine seqNil ?_
        refine hF8 _ _ ?_; clear hF8
        -- ret
        refine wpRet (fin1 (v := .bool _) rfl rfl ?_)
        exact ⟨rfl, hE⟩
      · skip
        have hbig : l.now ≤ 549755813888 := by omega
        obtain ⟨-, ⟨v2, v3⟩, -, -, -⟩ := id hv
        have v2 : 0 ≤ l.now := v2
        have hfl : l.fly.length ≤ 20 := hf.2.1
        have hHc0 := hE.size
        refine wpSkip ?_
        refine hF4 _ _ ?_; clear hF4
        refine wpSeq fun F9 hF9 => ?_
        refine wpRegion ?_
        refine seqQ rfl rfl (yLoadB h1 rfl Try.underlying25 rfl Try.sizeOf25 rfl) ?_
        -- e slot 24: call F12<farandole/farandolelaw45.To> t23
        refine seqE rfl rfl (stepCall rfl Try.call12 rfl ?_)
        refine (to_c l Hc (h.rd.ext hE) hs).mono ?_
        rintro v Hd ⟨l1, rfl, e1, r1, xd⟩
        refine seqN rfl rfl (nAlloc rfl Try.zeroValue30 rfl) (fun g3 H3 hx3 hB3 hg3 hl3 => ?_)
        -- e slot None: store T30 t3 t24
        refine seqE0 rfl rfl (stepStoreB rfl (by kernel_rfl) rfl rfl rfl hB3 rfl ?_)
        intro He h3 hKe
        have xde : Ext Hd He := hx3.mine hKe (by simp; omega)
        have gc1 : g1 < Hc.size := h1.lt
        have zcd := xd.size
        have gb3 : Hc.size ≤ g3 := by omega
        have gl3 : g3 < He.size := h3.lt
        replace h1 := (h1.ext xd).ext xde
        replace hE := (hE.trans xd).trans xde
        replace r1 := r1.ext xde
        clear hB3 hKe hx3 xd xde
        have s1 := sm_self hs e1
        refine seqNil ?_
        refine hF9 _ _ ?_; clear hF9
        refine wpSeq fun F10 hF10 => ?_
        refine wpRegion ?_
        refine seqQ rfl rfl (yAssign (v := .int _ _) rfl rfl) ?_
        refine seqNil ?_
        refine hF10 _ _ ?_; clear hF10
        refine wpSeq fun F11 hF11 => ?_
        refine wpSeq fun F12 hF12 => ?_
        refine wpRegion ?_
        refine seqQ rfl rfl (yAssign (v := .int _ _) rfl rfl) ?_
        refine seqNil ?_
        refine hF12 _ _ ?_; clear hF12
        -- loop
        refine wpBlock ?_
        refine wpLoopS [4, 5, 6, 7, 25, 26, 27, 28, 29, 30, 31, 32, 33, 34, 35, 36, 37, 38] (fun x : Nat × Nat => [(5, .int .i64 x.1), (4, .int .i64 x.2)]) (fun x H' => x.1 ≤ 8 ∧ Ext H H' ∧ Blk H' g1 (lkC l) 25 ∧ ∃ L : LH, Blk H' g3 (lkC L) 30 ∧ LkRd H' L ∧ LkSm L ∧ ValidL L.lk ∧ L.now = l.now + x.1 ∧ L.sent = l.sent ∧ x.2 + L.fly.length = l.fly.length ∧ ∀ f ∈ L.lk.fly, f.1 ≤ l.now + 8) (fun x => 8 - x.1) (0, 0) ⟨rfl, rfl, trivial⟩ ⟨by omega, hE, h1, l1, h3, r1, s1, by rw [e1]; exact hv, by have := (LkRd.sm_eq e1).2.1; dsimp only; omega, (LkRd.sm_eq e1).2.2.1, by have := (LkRd.sm_eq e1).2.2.2; dsimp only; omega, fun f hf => by rw [e1] at hf; exact (hv.good.rng f hf).2.1⟩ ?_
        clear hE h1 h3 r1 s1 e1
        rintro ⟨i, n⟩ J Hi ⟨hi, hE, h1, L, h3, r, sm, hvL, hnow, hsent, hn, hdue⟩
        dsimp only at hi hnow hn
        refine wpSeq fun F13 hF13 => ?_
        refine wpSeq fun F14 hF14 => ?_
        refine wpRegion ?_
        refine seqQ rfl rfl (yMove (v := .int _ _) rfl rfl) ?_
        refine seqQ rfl rfl (yLss rfl rfl rfl) ?_
        refine seqNil ?_
        refine hF14 _ _ ?_; clear hF14
        -- if t26
        refine wpIf rfl (fun hi8 => ?_) (fun hi8 => ?_)
        · skip
          have hi : i < 8 := by dsimp only at hi8; omega
          refine wpSkip ?_
          refine hF13 _ _ ?_; clear hF13
          refine wpSeq fun F15 hF15 => ?_
          refine wpBlock ?_
          refine wpSeq fun F16 hF16 => ?_
          refine wpRegion ?_
          refine seqQ rfl rfl (yLoadB h3 rfl Try.underlying30 rfl Try.sizeOf30 rfl) ?_
          -- e slot 31: call F11<farandole/link.Tick> t30
          refine seqE rfl rfl (stepCall rfl Try.call11 rfl ?_)
          refine (tick_c L Hi r sm).mono ?_
          rintro v Hj ⟨L', VA, va, xs, rfl, ea, eb, ra, px, xj⟩
          have hlt : L.lk.now < 1099511627776 := by show L.now < _; omega
          have sm' := LkRd.sm_tick sm ea
          have hvt := valid_tick hvL
          have hcnt := tick_count hvL hlt
          have hsub := tick_sub hvL hlt
          rw [← eb, ← ea, fly_len, fly_len, List.length_map] at hcnt
          rw [← ea] at hvt hsub
          have hnow' : L'.now = L.now + 1 := by
            have := congrArg Lk.now ea
            rw [tick_ok hvL hlt] at this
            exact this
          have hsent' : L'.sent = L.sent := by
            have := congrArg Lk.sent ea
            rw [tick_ok hvL hlt] at this
            exact this
          refine seqQ rfl rfl (yMove (v := .tuple _) rfl rfl) ?_
          refine seqQ rfl rfl (yExtract (v := .agg _) rfl rfl rfl) ?_
          refine seqQ rfl rfl (yExtract (v := .slice _ _ _) rfl rfl rfl) ?_
          refine seqN rfl rfl (nAlloc rfl Try.zeroValue30 rfl) (fun g6 H6 hx6 hB6 hg6 hl6 => ?_)
          -- e slot None: store T30 t6 t32
          refine seqE0 rfl rfl (stepStoreB rfl (by kernel_rfl) rfl rfl rfl hB6 rfl ?_)
          intro Hk h6 hKk
          have xk : Ext Hj Hk := hx6.mine hKk (by simp; omega)
          have hgi : g3 < Hi.size := h3.lt
          have hgi1 : g1 < Hi.size := h1.lt
          replace h3 := (h3.ext xj).ext xk
          replace h1 := (h1.ext xj).ext xk
          replace hE := (hE.trans xj).trans xk
          replace ra := ra.ext xk
          clear hB6 hKk hx6 xk xj px
          refine seqQ rfl rfl (yAssign (v := .slice _ _ _) rfl rfl) ?_
          refine seqNil ?_
          refine hF16 _ _ ?_; clear hF16
          refine wpSeq fun F17 hF17 => ?_
          refine wpRegion ?_
          refine seqQ rfl rfl (yMove (v := .int _ _) rfl rfl) ?_
          refine seqQ rfl rfl (yMove (v := .slice _ _ _) rfl rfl) ?_
          refine seqQ rfl rfl (yLen rfl Try.underlying31 rfl) ?_
          refine seqQ rfl rfl (yAdd rfl rfl rfl (by unfold In64; dsimp only; omega)) ?_
          refine seqQ rfl rfl (yAssign (v := .int _ _) rfl rfl) ?_
          refine seqNil ?_
          refine hF17 _ _ ?_; clear hF17
          refine wpRegion ?_
          refine seqQ rfl rfl (yLoadB h6 rfl Try.underlying30 rfl Try.sizeOf30 rfl) ?_
          -- e slot None: store T30 t3 t38
          refine seqE0 rfl rfl (stepStoreB rfl (by kernel_rfl) rfl rfl rfl h3 rfl ?_)
          intro Hl h3' hKl
          replace h3 : Blk Hl g3 (lkC L') 30 := h3'
          refine seqNil ?_
          refine hF15 _ _ ?_; clear hF15
          refine wpRegion ?_
          refine seqQ rfl rfl (yMove (v := .int _ _) rfl rfl) ?_
          refine seqQ rfl rfl (yAdd rfl rfl rfl (by unfold In64; omega)) ?_
          refine seqQ rfl rfl (yAssign (v := .int _ _) rfl rfl) ?_
          refine seqNil ?_
          -- end loop
          refine loopEnd (i + 1, n + xs.length) (by repeat (first | (with_reducible exact Agree.refl _ _) | refine Agree.upd ?_ rfl | refine Agree.over ?_ rfl)) (by dsimp only; omega) ⟨rfl, ?_, trivial⟩ ⟨hi, hE.mine hKl (by simp; omega), h1.keep hKl (by simp; omega), L', h3, (ra.keep hKl (by simp; omega)).rd, sm', hvt, ?_, by rw [hsent', hsent], by dsimp only; omega, fun f hf => hdue f (hsub f hf)⟩
          · show Value.int _ _ = Value.int _ _
            congr 1
          · dsimp only
            rw [hnow', hnow]
            omega
        · skip
          obtain rfl : i = 8 := by dsimp only at hi8; omega
          have hempty : L.fly.length = 0 := by
            rw [← fly_len]
            cases hf : L.lk.fly with
            | nil => rfl
            | cons f r =>
              have h1 := hdue f (by rw [hf]; simp)
              have h2 := (hvL.good.rng f (by rw [hf]; simp)).1
              have h3 : L.lk.now = l.now + 8 := hnow
              omega
          refine wpExit ?_
          refine hF11 _ _ ?_; clear hF11
          refine wpSeq fun F18 hF18 => ?_
          refine wpRegion ?_
          refine seqQ rfl rfl (yLoadB h3 rfl Try.underlying30 rfl Try.sizeOf30 rfl) ?_
          -- e slot 40: call F26<farandole/link.Idle> t39
          refine seqE rfl rfl (stepCall rfl Try.call26 rfl ?_)
          refine (idle_c L Hi).mono ?_
          rintro v Hj ⟨hv2, xj⟩
          obtain rfl : v = .bool true := hv2.trans (by rw [decide_eq_true hempty])
          refine seqQ rfl rfl (yMove (v := .bool true) rfl rfl) ?_
          refine seqQ rfl rfl (yMove (v := .int _ _) rfl rfl) ?_
          refine seqQ rfl rfl (yFieldAddr rfl Try.underlying25 rfl Try.sizeOf23 rfl rfl) ?_
          refine seqQ rfl rfl (yLoad rfl Try.underlying23 rfl rfl ((h1.ext xj).cell rfl)) ?_
          refine seqQ rfl rfl (yLen rfl Try.underlying23 rfl) ?_
          refine seqQ rfl rfl (yEql rfl rfl rfl) ?_
          refine seqQ rfl rfl (yPickT (v := .bool _) rfl rfl rfl) ?_
          -- guard t48
          rw [decide_eq_true (show ((n : Nat) : Int) = (l.fly.length : Int) by omega)]
          refine seqQ rfl rfl (yMove (v := .bool true) rfl rfl) ?_
          refine seqQ rfl rfl (yFieldAddr rfl Try.underlying30 rfl Try.sizeOf3 rfl rfl) ?_
          refine seqQ rfl rfl (yLoad rfl Try.underlying3 rfl rfl ((h3.ext xj).cell rfl)) ?_
          refine seqQ rfl rfl (yFieldAddr rfl Try.underlying25 rfl Try.sizeOf3 rfl rfl) ?_
          refine seqQ rfl rfl (yLoad rfl Try.underlying3 rfl rfl ((h1.ext xj).cell rfl)) ?_
          refine seqQ rfl rfl (yAdd rfl rfl rfl (by unfold In64; omega)) ?_
          refine seqQ rfl rfl (yEql rfl rfl rfl) ?_
          refine seqQ rfl rfl (yPickT (v := .bool _) rfl rfl rfl) ?_
          -- guard t56
          rw [decide_eq_true (show L.now = l.now + 8 from hnow)]
          refine seqQ rfl rfl (yMove (v := .bool true) rfl rfl) ?_
          refine seqQ rfl rfl (yFieldAddr rfl Try.underlying30 rfl Try.sizeOf3 rfl rfl) ?_
          refine seqQ rfl rfl (yLoad rfl Try.underlying3 rfl rfl ((h3.ext xj).cell rfl)) ?_
          refine seqQ rfl rfl (yFieldAddr rfl Try.underlying25 rfl Try.sizeOf3 rfl rfl) ?_
          refine seqQ rfl rfl (yLoad rfl Try.underlying3 rfl rfl ((h1.ext xj).cell rfl)) ?_
          refine seqQ rfl rfl (yEql rfl rfl rfl) ?_
          refine seqQ rfl rfl (yPickT (v := .bool _) rfl rfl rfl) ?_
          refine seqQ rfl rfl (yAssign (v := .bool _) rfl rfl) ?_
          refine seqNil ?_
          refine hF18 _ _ ?_; clear hF18
          -- ret
          rw [decide_eq_true hsent]
          -- ret
          refine wpRet (fin1 (v := .bool _) rfl rfl ?_)
          exact ⟨rfl, hE.trans xj⟩
set_option maxRecDepth 100000 in
set_option maxRecDepth 100000 in
theorem linkDrain_lifted (os : Os) (started : os.Started) (H : Type) (enc : TypeId × Value → H) :
    ReturnsInHanded {} Try.checked os 7 .any (Rows.linkDrainSpec.pre6 enc Try.prog Try.f7 Rows.linkDrainRow.domain false) (Rows.linkDrainSpec.post enc Try.prog Try.f7 false true false false) := by
  refine law_lifted started Rows.linkDrainSpec rfl (by kernel_rfl) Try.func7 rfl
    (fun ds h => by match ds, h with | [_], _ => rfl) (of_decide_eq_true (by kernel_rfl))
    (ChangeSpec.witness6 (enc := enc) (C := Try.checked) false ⟨#[], #[.agg #[.slice none 0 0, .int .i64 0, .int .i64 0, .slice none 0 0]], []⟩ 8 (by kernel_rfl) (by kernel_rfl) (by kernel_rfl) (by kernel_rfl)) ?_
  intro W base args ds p hval hA
  rw [Try.params7] at hA hval
  obtain ⟨v0, d0, rfl, rfl, h0⟩ := trodAll_one hA
  have g0 := hval 0 _ v0 rfl rfl
  obtain ⟨l, rfl, hl⟩ := (opn_link W).agg Try.underlying25 rfl g0 h0
  exact drain_walk l W.heap hl
set_option maxRecDepth 100000 in
theorem linkDrain_holds : Rows.LinkDrainSaid :=
  OpenClaim.holds_of_wide 7 Try.f7 rfl rfl rfl rfl rfl rfl rfl ⟨rfl, rfl, rfl, rfl, rfl⟩ rfl rfl rfl rfl rfl (by kernel_rfl) Try.func7 (by kernel_rfl)
    (of_decide_eq_true (by kernel_rfl)) (by unfold Func.isWrapper; first | (rw [if_pos (by decide +kernel)]; kernel_rfl) | (rw [if_neg (by decide +kernel)]; exact ⟨rfl, rfl⟩))
    (fun os started H enc _ => linkDrain_lifted os started H enc)
end Go.Proofs.Ytckbcfldjniafaa
